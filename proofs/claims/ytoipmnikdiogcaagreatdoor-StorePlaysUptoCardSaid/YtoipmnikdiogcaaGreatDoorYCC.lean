/-
  Jou1, Jou2.
-/
import Derived.Test.YtoipmnikdiogcaaGreatDoorYCA
set_option maxRecDepth 100000
set_option maxHeartbeats 64000000
namespace Go.Proofs.YtoipmnikdiogcaaGreatDoor
open Go Go.RowKit
open Go.Proofs.Tryz
abbrev xBx:Pl:=(po [0,1,2] .nil)
abbrev xBy:Pl:=(po [0,1,2,3,4,5,6,7,8,9,10,11,12] (.ef 13 [10,9] (po [14,15,16,17,18,19,20,22,23] (.ef 21 [23,22,18,17] (po [24,25,26,27,28,29,30,31,32,33,34,35,36,37,38,39,40,41] .nil)))))
abbrev xBz:Pl:=(.op 0 (.op 1 (.ef 2 [0] (.op 3 (.ef 4 [] (.op 5 (.op 6 .nil)))))))
abbrev yUy:Pl:=(po [0,1,2,3,4,5,6,7,8,9,10,11,12,13,14,15,16,17,18] .nil)
abbrev yYL:Pl:=(po [0,1,2,3,4,5,6,7,8,9,10,11,12,13,14,15,16,17] .nil)
abbrev yUz:Pl:=(po [0,1,2,3,4,5,6,7,8,9,10,13,14,15] (.ef 11 [15,14,13] (.op 12 (.op 16 (.ef 17 [] (.op 18 .nil))))))
abbrev yUA:Pl:=(po [0,3,4,5] (.ef 1 [5,4,3,0] (.op 2 (.op 6 (.ef 7 [0] (.ef 8 [] (.ef 9 [] .nil)))))))
abbrev yQK:Pl:=(po [0,1,2,3,4,5,6,7,8,9,10] (.ef 11 [] (po [12,13,14,15,16] .nil)))
abbrev yQL:Pl:=(po [0,1,2,3,4,5,6,7,8,9,10,11,12,13,14,15,16,17] (.ef 18 [] (.op 19 .nil)))
abbrev yQM:Pl:=(po [0,1,2,3,4,5] (.ef 6 [3,2,1,0] (po [7,8,9] (.ef 10 [] .nil))))
abbrev zTCC0:List (Nat×Pl):=[(8,yQK),(10,yQL),(14,yQM)]
def yBQ (b:Int):Int:=if b<0 then 0 else if b≤229 then 1 else 2+(b-230) / 233
def yA2 (n:Int):Int:=if n<1 then -1 else IntKind.i64.wrap (229+IntKind.i64.wrap (233*(n-1)))
def yA8 (v i:Nat):Nat:=v*1048576+i+1
theorem yDa (x:Int) (h:-9223372036854775808≤x∧x≤9223372036854775807):IntKind.i64.wrap x=x:=by
 have:IntKind.i64.wrap x=if x % 18446744073709551616≥9223372036854775808 then x % 18446744073709551616-18446744073709551616 else x % 18446744073709551616:=by simp [IntKind.wrap,IntKind.signed,IntKind.bits]
 rw [this];split <;> omega
section
variable {W:World} {E:Nat→Addr} {p g:Nat} {D:Dsk}
theorem yPA (b:Int) (hb:b≤9223372036854775807):CtU prog W 119 [zi b] [] (zi (yBQ b)) []:=by
 by_cases h1:b<0
 ·have q1:decide (b<0)=true:=zY h1;rw [show yBQ b=0 from if_pos h1];refine zE func119 ntmps119 fun R=>?_;repeat' (first|refine xqb ?_|refine xsf ?_ ?_|exact xdn ()|intro _)
 have q1:decide (b<0)=false:=zZ h1;by_cases h2:b≤229
 ·have q2:decide (b≤229)=true:=zY h2;rw [show yBQ b=1 from (if_neg h1).trans (if_pos h2)];refine zE func119 ntmps119 fun R=>?_;repeat' (first|refine xqb ?_|refine xsf ?_ ?_|exact xdn ()|intro _)
 have q2:decide (b≤229)=false:=zZ h2;have e:yBQ b=2+(b-230) / 233:=(if_neg h1).trans (if_neg h2);obtain ⟨q,hq⟩:∃ q,q=(b-230) / 233:=⟨_,rfl⟩;have eJ:(b-229-1) / 233=q:=by rw [hq,show b-229-1=b-230 by omega]
 rw [e,← hq];refine zE func119 ntmps119 fun R=>?_;repeat' (first|refine yAr ?_;refine yAa (yAd (r:=2+q) rfl rfl rfl zO) ?_|(refine yEm ?_;first|refine yAa (yD5 rfl rfl zO hq.symm) ?_|refine yAa (yD5 rfl rfl zO eJ) ?_)|refine xqb ?_|refine xsf ?_ ?_|exact xdn ()|intro _)
theorem yQN (b:Int) (hb:b≤9223372036854775807):CtU prog W 138 [zi b] [] (zi (yBQ b)) []:=by
 by_cases h1:b<0
 ·have q1:decide (b<0)=true:=zY h1;rw [show yBQ b=0 from if_pos h1];refine zE func138 ntmps138 fun R=>?_;repeat' (first|refine xqb ?_|refine xsf ?_ ?_|exact xdn ()|intro _)
 have q1:decide (b<0)=false:=zZ h1;by_cases h2:b≤229
 ·have q2:decide (b≤229)=true:=zY h2;rw [show yBQ b=1 from (if_neg h1).trans (if_pos h2)];refine zE func138 ntmps138 fun R=>?_;repeat' (first|refine xqb ?_|refine xsf ?_ ?_|exact xdn ()|intro _)
 have q2:decide (b≤229)=false:=zZ h2;have e:yBQ b=2+(b-230) / 233:=(if_neg h1).trans (if_neg h2);obtain ⟨q,hq⟩:∃ q,q=(b-230) / 233:=⟨_,rfl⟩;have eJ:(b-229-1) / 233=q:=by rw [hq,show b-229-1=b-230 by omega]
 rw [e,← hq];refine zE func138 ntmps138 fun R=>?_;repeat' (first|refine yAr ?_;refine yAa (yAd (r:=2+q) rfl rfl rfl zO) ?_|(refine yEm ?_;first|refine yAa (yD5 rfl rfl zO hq.symm) ?_|refine yAa (yD5 rfl rfl zO eJ) ?_)|refine xqb ?_|refine xsf ?_ ?_|exact xdn ()|intro _)
theorem ySd (n:Int) (hn:n≤9223372036854775807):CtU prog W 84 [zi n] [] (zi (yA2 n)) []:=by
 by_cases h1:n<1
 ·have q1:decide (n<1)=true:=zY h1;rw [show yA2 n=-1 from if_pos h1];refine zE func84 ntmps84 fun R=>?_;repeat' (first|refine xqb ?_|refine xsf ?_ ?_|exact xdn ()|intro _)
 have q1:decide (n<1)=false:=zZ h1;rw [show yA2 n=_ from if_neg h1];refine zE func84 ntmps84 fun R=>?_;repeat' (first|refine xqb ?_|refine xsf ?_ ?_|exact xdn ()|intro _)
theorem yPB (n:Int) (hn:n≤9223372036854775807):CtU prog W 85 [zi n] [] (zi (yA2 n)) []:=by
 by_cases h1:n<1
 ·have q1:decide (n<1)=true:=zY h1;rw [show yA2 n=-1 from if_pos h1];refine zE func85 ntmps85 fun R=>?_;repeat' (first|refine xqb ?_|refine xsf ?_ ?_|exact xdn ()|intro _)
 have q1:decide (n<1)=false:=zZ h1;rw [show yA2 n=_ from if_neg h1];refine zE func85 ntmps85 fun R=>?_;repeat' (first|refine xqb ?_|refine xsf ?_ ?_|exact xdn ()|intro _)
theorem yYM (v i:Nat) (hv:1≤v∧v≤1099511627776) (hi:i<65536):CtU prog W 122 [zi (v:Nat),zi (i:Nat)] [] (.tuple #[.int .u64 (yA8 v i:Nat),.nilIface]) []:=by
 have q1:decide ((v:Int)<1)=false:=zZ zO;have q2:decide ((1099511627776:Int)<(v:Int))=false:=zZ zO;have q3:decide ((i:Int)<0)=false:=zZ zO;have q4:decide ((65536:Int)≤(i:Int))=false:=zZ zO;have c1:IntKind.u64.wrap (v:Int)=(v:Int):=yBC v zO;have c2:IntKind.u64.wrap (i:Int)=(i:Int):=yBC i zO;have c3:IntKind.u64.wrap ((v:Int)*2 ^ (min (20:Int).toNat IntKind.u64.bits))=((v*1048576:Nat):Int):=by
  rw [show (v:Int)*2 ^ (min (20:Int).toNat IntKind.u64.bits)=((v*1048576:Nat):Int) by show (v:Int)*2 ^ 20=_;omega]
  exact yBC _ zO
 have c4:IntKind.u64.wrap (((v*1048576:Nat):Int)+(i:Int))=((v*1048576+i:Nat):Int):=yBC (v*1048576+i) zO;have c5:IntKind.u64.wrap (((v*1048576+i:Nat):Int)+1)=((yA8 v i:Nat):Int):=yBC (v*1048576+i+1) zO;obtain ⟨a2,bx⟩:∃ a2,a2=v*1048576+i:=⟨_,rfl⟩;obtain ⟨a1,bi⟩:∃ a1,a1=v*1048576:=⟨_,rfl⟩;obtain ⟨a3,ha3⟩:∃ a3,a3=yA8 v i:=⟨_,rfl⟩;rw [← bx] at c4 c5;rw [← bi] at c3 c4;rw [← ha3] at c5 ⊢;clear bi bx ha3;refine zE func122 ntmps122 fun R=>?_;repeat' (first|(refine yAr ?_;first|refine yAa (yCF rfl rfl c5) ?_|refine yAa (yCF rfl rfl c4) ?_)|refine yCo ?_;refine yAa (yMR rfl rfl zO c3) ?_|refine xqb ?_|refine xsf ?_ ?_|refine xdr 2 xBx ?_|exact xdn ()|apply zN|intro _)
def yMS (D:Dsk) (at_ n ver:Int):Prop:=0≤at_∧0≤n∧at_≤D.n∧n≤(D.n:Int)-at_∧n≤65536∧1≤ver∧ver≤1099511627776
theorem yQO (hn:D.n≤65536) (ho:D.off=false) (at_ n ver:Int) (h:yMS D at_ n ver):CtU prog W 153 [.agg #[zPp p,zi at_,zi n,zi ver]] [DiskP p D] .nilIface [DiskP p D]:=by
 obtain ⟨h1,h2,h3,h4,h5,h6,h7⟩:=h;have q1:decide (at_<0)=false:=zZ zO;have q2:decide (n<0)=false:=zZ zO;have q3:decide ((D.n:Int)<at_)=false:=zZ zO;have q4:decide ((D.n:Int)-at_<n)=false:=zZ zO;have q5:decide (65536<n)=false:=zZ zO;have q6:decide (ver<1)=false:=zZ zO;have q7:decide (1099511627776<ver)=false:=zZ zO;have c1:CtU prog W 45 [zPp p] [DiskP p D] (zi D.n) [DiskP p D]:=yBM;have c2:CtU prog W 46 [zPp p] [DiskP p D] (.bool false) [DiskP p D]:=by rw [← ho];exact yDy
 refine zE func153 ntmps153 fun R=>?_;repeat' (first|refine zbx fun g1=>?_|refine xqb ?_|refine xsf ?_ ?_|refine xdr 1 xBy ?_|exact xdn ()|apply zN|intro _)
theorem yXb (hn:D.n≤65536) (ho:D.off=false) (at_ n ver:Int) (h:yMS D at_ n ver):Ct prog W 106 [zPp p,zi at_,zi n,zi ver] [DiskP p D] (fun g:Nat=>.tuple #[zPp g,.nilIface]) (fun g=>[DiskP p D,yAj g [zPp p,zi at_,zi n,zi ver,zi 0,zi D.life,.bool false] 180]):=by
 have c1:=yQO (W:=W) (p:=p) hn ho at_ n ver h;have c2:CtU prog W 88 [zPp p] [DiskP p D] (zi D.life) [DiskP p D]:=yJ4;refine zE func106 ntmps106 fun R=>?_;repeat' (first|refine zbx fun g1=>?_|refine xst ?_|refine xsf ?_ ?_|refine xdr 5 xBz ?_|apply zN|intro _)
 all_goals (exact xdn g1)
def yBi (D:Dsk) (life:Int) (dead:Bool):Bool:=D.off || (decide (D.life≠life) || dead)
theorem yUB (at_ n ver used life:Int) (dead:Bool):CtU prog W 120 [zPp g] [DiskP p D,yAj g [zPp p,zi at_,zi n,zi ver,zi used,zi life,.bool dead] 180] (.bool (yBi D life dead)) [DiskP p D,yAj g [zPp p,zi at_,zi n,zi ver,zi used,zi life,.bool (yBi D life dead)] 180]:=by
 have c1:CtU prog W 46 [zPp p] [DiskP p D] (.bool D.off) [DiskP p D]:=yDy;have c2:CtU prog W 88 [zPp p] [DiskP p D] (zi D.life) [DiskP p D]:=yJ4;rcases Bool.eq_false_or_eq_true D.off with ho|ho
 ·have e:yBi D life dead=true:=by unfold yBi;rw [ho];rfl
  rw [e];rw [ho] at c1;refine zE func120 ntmps120 fun R=>?_;repeat' (first|(refine yBS ?_;first|(refine yBn (X:=Unit) xE c1 xP rfl ?_)|(refine yCl (X:=Unit) rfl rfl xE c1 xP rfl ?_)|(refine yBn (X:=Unit) xE c2 xP rfl ?_)|(refine yCl (X:=Unit) rfl rfl xE c2 xP rfl ?_))|refine xst ?_|refine xsf ?_ ?_|refine xdr 1 yUy ?_|exact xdn ()|apply zN|intro _)
 rw [ho] at c1;by_cases hl:D.life=life
 ·have e:yBi D life dead=dead:=by unfold yBi;rw [ho,zZ (by simpa using hl)];rfl
  rw [e];refine zE func120 ntmps120 fun R=>?_;repeat' (first|(refine yBS ?_;first|(refine yBn (X:=Unit) xE c1 xP rfl ?_)|(refine yCl (X:=Unit) rfl rfl xE c1 xP rfl ?_)|(refine yBn (X:=Unit) xE c2 xP rfl ?_)|(refine yCl (X:=Unit) rfl rfl xE c2 xP rfl ?_))|refine xqb ?_|refine xsf ?_ ?_|refine xdr 1 yUy ?_|exact xdn ()|apply zN|intro _)
 ·have e:yBi D life dead=true:=by unfold yBi;rw [ho,zY (by simpa using hl)];rfl
  rw [e];refine zE func120 ntmps120 fun R=>?_;repeat' (first|(refine yBS ?_;first|(refine yBn (X:=Unit) xE c1 xP rfl ?_)|(refine yCl (X:=Unit) rfl rfl xE c1 xP rfl ?_)|(refine yBn (X:=Unit) xE c2 xP rfl ?_)|(refine yCl (X:=Unit) rfl rfl xE c2 xP rfl ?_))|refine xqb ?_|refine xsf ?_ ?_|refine xdr 1 yUy ?_|exact xdn ()|apply zN|intro _)
theorem yMT (at_ n ver used life:Int) (dead:Bool) (b:Int) (hb:b≤9223372036854775807) (hn:0≤n∧n≤65536) (hu:0≤used∧used≤65536):CtU prog W 60 [zPp g,zi b] [yAj g [zPp p,zi at_,zi n,zi ver,zi used,zi life,.bool dead] 180] (.bool (decide (0≤b∧yBQ b≤n-used))) [yAj g [zPp p,zi at_,zi n,zi ver,zi used,zi life,.bool dead] 180]:=by
 have c1:=yPA (W:=W) b hb;obtain ⟨c,hc⟩:∃ c,c=yBQ b:=⟨_,rfl⟩;rw [← hc] at c1 ⊢;by_cases h1:0≤b
 ·have q1:decide (0≤b)=true:=zY h1;have q2:decide (c≤n-used)=decide (0≤b∧c≤n-used):=by simp [h1]
  refine zE func60 ntmps60 fun R=>?_;repeat' (first|(refine yBS ?_;first|(refine yBn (X:=Unit) xE c1 xP rfl ?_)|(refine yCl (X:=Unit) rfl rfl xE c1 xP rfl ?_))|refine xqb ?_|refine xsf ?_ ?_|refine xdr 1 yYL ?_|exact xdn ()|apply zN|intro _)
 ·have q1:decide (0≤b)=false:=zZ h1;rw [show decide (0≤b∧c≤n-used)=false by simp [h1]];refine zE func60 ntmps60 fun R=>?_;repeat' (first|refine xqb ?_|refine xsf ?_ ?_|refine xdr 1 yYL ?_|exact xdn ()|apply zN|intro _)
end
def yBH:Nat→zB→List zB
 |0,_=>[]
 |f+1,l=>if l=[] then [] else (0::l.take 233)::yBH f (l.drop 233)
def yE2 (n:Nat):zB:=[1,UInt8.ofNat (n % 256),UInt8.ofNat (n / 256 % 256),UInt8.ofNat (n / 65536 % 256),UInt8.ofNat (n / 16777216 % 256)]
def yBw (r:zB):List zB:=(yE2 r.length++r.take 229)::yBH r.length (r.drop 229)
theorem yCR (f:Nat):yBH f []=[]:=by cases f <;> simp [yBH]
theorem yCr (f:Nat) (l:zB) (h:l≠[]):yBH (f+1) l=(0::l.take 233)::yBH f (l.drop 233):=by show (if l=[] then _ else _)=_;rw [if_neg h]
theorem yLy:∀ (f:Nat) (l:zB),l.length≤233*f→(yBH f l).length=(l.length+232) / 233:=by
 intro f
 induction f with
 |zero=>intro l h;have:l=[]:=List.length_eq_zero_iff.1 zO;subst this;rfl
 |succ f ih=>
  intro l h;by_cases h0:l=[]
  ·subst h0;rw [yCR];rfl
  ·have hp:=zLv.2 h0;rw [yCr _ _ h0,zLj,ih _ (by rw [zLf];omega),zLf];omega
theorem ySe:∀ (f:Nat) (l:zB),∀ p ∈ yBH f l,p.length≤234:=by
 intro f
 induction f with
 |zero=>intro l p hp;cases hp
 |succ f ih=>
  intro l p hp;by_cases h0:l=[]
  ·subst h0;rw [yCR] at hp;cases hp
  ·rw [yCr _ _ h0] at hp;rcases zLm.1 hp with rfl|hp
   ·rw [zLj,zLg];omega
   ·exact ih _ _ hp
theorem yB2 (r:zB):((yBw r).length:Int)=yBQ r.length:=by
 unfold yBw yBQ;rw [zLj,yLy _ _ (by rw [zLf];omega),zLf];split
 ·omega
 split <;> omega
theorem yIH (r:zB):∀ p ∈ yBw r,p.length≤234:=by
 intro p hp;unfold yBw at hp;rcases zLm.1 hp with rfl|hp
 ·rw [zLa,zLg];show 5+_≤234;omega
 ·exact ySe _ _ _ hp
theorem yGG (n k:Nat):IntKind.u8.wrap ((n / k:Nat):Int)=((UInt8.ofNat (n / k % 256)).toNat:Int):=by have e:IntKind.u8.wrap ((n / k:Nat):Int)=((n / k:Nat):Int) % 256:=rfl;rw [e,UInt8.toNat_ofNat'];omega
theorem yKh (n:Nat):IntKind.u8.wrap ((n:Nat):Int)=((UInt8.ofNat (n % 256)).toNat:Int):=by have e:IntKind.u8.wrap ((n:Nat):Int)=((n:Nat):Int) % 256:=rfl;rw [e,UInt8.toNat_ofNat'];omega
theorem yII (n j:Nat) (hj:j≤24):((n:Nat):Int).fdiv (2 ^ (min ((j:Nat):Int).toNat IntKind.i64.bits))=((n / 2 ^ j:Nat):Int):=by
 have hm:min ((j:Nat):Int).toNat IntKind.i64.bits=j:=by show min ((j:Nat):Int).toNat 64=j;omega
 rw [hm,Int.fdiv_eq_ediv_of_nonneg _ (by exact Int.pow_nonneg zX)];simp
section
variable {W:World} {E:Nat→Addr} {p g:Nat} {D:Dsk}
theorem yUC (r:zB) (hl:r.length≤1048576):Ct prog W 121 [strV r] [] (fun x:Nat × Nat=>.slice (some ⟨x.1,0,none⟩) (yBw r).length x.2) (fun x=>[yA4 (.slice (some ⟨x.1,0,none⟩) (yBw r).length x.2) 9 1 (yBw r).length ((yBw r).map strV)]):=by
 obtain ⟨aB,au⟩:∃ aB,aB=yBw r:=⟨_,rfl⟩;rw [← au];have b0:=yKh r.length;have b1:=yGG r.length 256;have b2:=yGG r.length 65536;have b3:=yGG r.length 16777216;have s1:((r.length:Nat):Int).fdiv (2 ^ (min (8:Int).toNat IntKind.i64.bits))=((r.length / 256:Nat):Int):=yII r.length 8 zO;have s2:((r.length:Nat):Int).fdiv (2 ^ (min (16:Int).toNat IntKind.i64.bits))=((r.length / 65536:Nat):Int):=yII r.length 16 zO;have s3:((r.length:Nat):Int).fdiv (2 ^ (min (24:Int).toNat IntKind.i64.bits))=((r.length / 16777216:Nat):Int):=yII r.length 24 zO;obtain ⟨c0,eu⟩:∃ c,c=UInt8.ofNat (r.length % 256):=⟨_,rfl⟩;obtain ⟨c1,eF⟩:∃ c,c=UInt8.ofNat (r.length / 256 % 256):=⟨_,rfl⟩;obtain ⟨c2,dt⟩:∃ c,c=UInt8.ofNat (r.length / 65536 % 256):=⟨_,rfl⟩;obtain ⟨c3,kR⟩:∃ c,c=UInt8.ofNat (r.length / 16777216 % 256):=⟨_,rfl⟩;have bW:yE2 r.length=[1,c0,c1,c2,c3]:=by rw [eu,eF,dt,kR];rfl
 rw [← eu] at b0;rw [← eF] at b1;rw [← dt] at b2;rw [← kR] at b3;obtain ⟨n1,cN⟩:∃ m,m=r.length / 256:=⟨_,rfl⟩;obtain ⟨n2,cO⟩:∃ m,m=r.length / 65536:=⟨_,rfl⟩;obtain ⟨n3,jb⟩:∃ m,m=r.length / 16777216:=⟨_,rfl⟩;rw [← cN] at s1 b1;rw [← cO] at s2 b2;rw [← jb] at s3 b3;obtain ⟨ct,hct⟩:∃ m,m=min r.length 229:=⟨_,rfl⟩;have dO:min (r.length:Int) 229=(ct:Nat):=zO;have ht:r.take ((ct:Nat):Int).toNat=r.take 229:=by rw [zLe,hct];exact List.take_eq_take_iff.2 zO
 have hd:r.drop ((ct:Nat):Int).toNat=r.drop 229:=by
  rw [zLe,hct];by_cases hh:r.length≤229
  ·rw [zLl zO,zLl zO]
  ·rw [show min r.length 229=229 by omega]
 obtain ⟨r1,jE⟩:∃ x,x=r.take 229:=⟨_,rfl⟩;obtain ⟨r2,aN⟩:∃ x,x=r.drop 229:=⟨_,rfl⟩;have hr1l:r1.length≤229:=by rw [jE,zLg];omega
 have hr2l:r2.length≤r.length:=by rw [aN,zLf];omega
 have aI:[[1,c0,c1,c2,c3]++r1]++yBH r.length r2=aB:=by rw [au,jE,aN,← bW];rfl
 rw [← jE] at ht;rw [← aN] at hd;clear eu eF dt kR cN cO jb jE aN bW au;refine zE func121 ntmps121 fun R=>?_;repeat' (first|(refine yAD ?_;first|refine yAK rfl xF (by rfl) zO rfl (fun g2=>?_)|refine yKg (v0:=1) (v1:=c0) (v2:=c1) (v3:=c2) (v4:=c3) rfl rfl rfl rfl rfl rfl (fun g1=>?_))|refine yAu ?_;refine yAa (yCP (l:=[1,c0,c1,c2,c3]) rfl xS rfl) ?_|(refine yBb ?_;first|refine yAa (yBh rfl rfl zO hd) ?_|refine yAa (yCp rfl rfl zO ht) ?_)|refine yDg ?_;refine yAa (yCv rfl rfl dO) ?_|refine yAr ?_;refine yAa (yFx rfl rfl) ?_|(refine yLE ?_;first|refine yAa (yD6 rfl rfl zO s3) ?_|refine yAa (yD6 rfl rfl zO s2) ?_|refine yAa (yD6 rfl rfl zO s1) ?_)|refine xqb ?_|refine xsf ?_ ?_|refine xdt [(3,yUz),(8,yUA)] ?_|apply zN|intro _)
 refine KJ.toRow (g:=g2) (m:=1) (size:=1) xS (by rfl) (by unfold maxLen;omega) ?_
 refine yAC (fun i:{s:Nat × zB × List zB × Nat × Nat//s.2.2.1++yBH s.1 s.2.1=aB∧s.2.1.length≤233*s.1∧s.2.1.length≤1048576∧s.2.2.1.length+s.1≤1048577}=>[(0,strV i.1.2.1),(5,.slice (some ⟨i.1.2.2.2.1,0,none⟩) i.1.2.2.1.length i.1.2.2.2.2)])
  (fun i=>[yA4 (.slice (some ⟨i.1.2.2.2.1,0,none⟩) i.1.2.2.1.length i.1.2.2.2.2) 9 1 i.1.2.2.1.length (i.1.2.2.1.map strV)]++R) (fun i=>i.1.1) ⟨(r.length,r2,[[1,c0,c1,c2,c3]++r1],g2,1),aI,by dsimp only;omega,by dsimp only;omega,by dsimp only [List.length];omega⟩ xB (xN) (fun ⟨(f,rest,an,ga,ca),hr,hf,du,bF⟩=>?_)
 dsimp only at hr hf du bF ⊢;by_cases h0:rest=[]
 ·subst h0;rw [yCR,zLs] at hr;subst hr;repeat' (first|refine yAo ?_;refine yAa (yDO rfl rfl rfl) ?_|refine xst ?_|refine xsf ?_ ?_|refine xdt [(3,yUz),(8,yUA)] ?_|apply zN|intro _)
  all_goals (exact xdn (ga,ca))
 obtain ⟨f',rfl⟩:∃ f',f=f'+1:=⟨f-1,by have:=zLv.2 h0;omega⟩;rw [yCr _ _ h0] at hr;obtain ⟨cu,hcu⟩:∃ m,m=min rest.length 233:=⟨_,rfl⟩;have hmin2:min (rest.length:Int) 233=(cu:Nat):=zO;have fR:rest.take ((cu:Nat):Int).toNat=rest.take 233:=by rw [zLe,hcu];exact List.take_eq_take_iff.2 zO
 have cV:rest.drop ((cu:Nat):Int).toNat=rest.drop 233:=by
  rw [zLe,hcu];by_cases hh:rest.length≤233
  ·rw [zLl zO,zLl zO]
  ·rw [show min rest.length 233=233 by omega]
 obtain ⟨q1,eJ⟩:∃ x,x=rest.take 233:=⟨_,rfl⟩;obtain ⟨q2,bY⟩:∃ x,x=rest.drop 233:=⟨_,rfl⟩;have hq1l:q1.length≤233:=by rw [eJ,zLg];omega
 have hq2l:q2.length=rest.length-233:=by rw [bY,zLf]
 rw [← eJ] at fR hr;rw [← bY] at cV hr;clear eJ bY;repeat' (first|refine yAQ ?_;refine yCN (a2:=0) rfl rfl (by rfl) zO xS (Src.cells (i:=1) xS xC) (by rfl) zO xO zO zO rfl rfl (fun g5 c5=>?_)|refine yAD ?_;refine yAK rfl xF (by rfl) zO rfl (fun g3=>?_)|refine yAu ?_;refine yAa (yCP (l:=[0]) rfl xS rfl) ?_|(refine yBb ?_;first|refine yAa (yBh rfl rfl zO cV) ?_|refine yAa (yCp rfl rfl zO fR) ?_)|refine yDg ?_;refine yAa (yCv rfl rfl hmin2) ?_|refine yAr ?_;refine yAa (yFx rfl rfl) ?_|refine yAo ?_;refine yAa (yEp rfl rfl h0) ?_|refine xst ?_|refine xsf ?_ ?_|refine xdt [(3,yUz),(8,yUA)] ?_|apply zN|intro _)
 refine yAs ⟨(f',q2,an++[0::q1],g5,c5),by dsimp only;rw [zLd];exact hr,by dsimp only;omega,by dsimp only;omega,by dsimp only;rw [zLa];show an.length+1+f'≤_;omega⟩ (by show f'<f'+1;omega) ?_ ?_
 ·dsimp only;rw [zLa];exact xB
 ·have em:an.map strV++[strV (0::q1)]=(an++[0::q1]).map strV:=by simp
  dsimp only;rw [← em,zLa];exact (xN)
def yBU (at_:Int) (ver used:Nat):List zB→Nat→Dsk→Bool × Dsk
 |[],_,D=>(true,D)
 |pc::rest,i,D=>if D.writeE (at_+(used:Nat)+(i:Nat)) (yAF (yA8 ver (used+i):Nat) pc)≠0 then (false,D.writeD (at_+(used:Nat)+(i:Nat)) (yAF (yA8 ver (used+i):Nat) pc))
  else yBU at_ ver used rest (i+1) (D.writeD (at_+(used:Nat)+(i:Nat)) (yAF (yA8 ver (used+i):Nat) pc))
theorem yKi (hE:ErrsOn L8 W E) (fX:W.cell? ⟨4,0,none⟩=some (yAy E 17)) (hN:NibAt W) (at_ n life:Int) (ver used:Nat) (r:zB) (_:D.n≤65536) (bz:yBi D life false=false) (hnb:0≤n∧n≤65536) (hu:(used:Int)≤n) (hl:r.length≤1048576) (ak:yBQ r.length≤n-used) (cJ:0≤at_∧at_≤65536) (eq:1≤ver∧ver≤1099511627776) (aS:D.und.length+65536<1073741823) :Ct prog W 61 [zPp g,strV r] [DiskP p D,yAj g [zPp p,zi at_,zi n,zi ver,zi used,zi life,.bool false] 180] (fun _:Unit=>yAy E (if (yBU at_ ver used (yBw r) 0 D).1 then 0 else 12)) (fun _=>[DiskP p (yBU at_ ver used (yBw r) 0 D).2,yAj g [zPp p,zi at_,zi n,zi ver,zi (if (yBU at_ ver used (yBw r) 0 D).1 then (used:Int)+yBQ r.length else used),zi life,.bool (!(yBU at_ ver used (yBw r) 0 D).1)] 180]):=by
 have dV:W.cell? ⟨2,0,none⟩=some (yAy E 12):=hE.at_ 12 zX;have _:=fX;have c1:=yUB (W:=W) (p:=p) (g:=g) (D:=D) at_ n ver used life false;rw [bz] at c1;have c2:=yMT (W:=W) (p:=p) (g:=g) at_ n ver used life false r.length zO hnb zO;rw [show decide (0≤(r.length:Int)∧yBQ r.length≤n-used)=true from zY ⟨zO,ak⟩] at c2;have c3:=yUC (W:=W) r hl;have c4:=yPA (W:=W) r.length zO;have hL:=yB2 r;have hLe:=yIH r;obtain ⟨co,hco⟩:∃ c,c=yBQ r.length:=⟨_,rfl⟩;obtain ⟨ps,iF⟩:∃ ps,ps=yBw r:=⟨_,rfl⟩;rw [← hco] at hL ak c4 ⊢;rw [← iF] at hL hLe c3 ⊢;clear hco iF;obtain ⟨aB,au⟩:∃ aB,aB=yBU at_ ver used ps 0 D:=⟨_,rfl⟩;rw [← au];refine zE func61 ntmps61 fun R=>?_;repeat' (first|refine xca c3 fun x=>?_|refine xst ?_|refine xsf ?_ ?_|refine xdt zTCC0 ?_|apply zN|intro _)
 rename_i x
 refine yAC (fun i:{s:Nat × Dsk//yBU at_ ver used (ps.drop s.1) s.1 s.2=aB∧s.1≤ps.length∧s.2.und.length≤D.und.length+s.1}=>[(0,zPp g),(1,strV r),(21,.slice (some ⟨x.1,0,none⟩) ps.length x.2),(22,zi (ps.length:Nat)),(23,zi (i.1.1:Nat))])
  (fun i=>[DiskP p i.1.2,yAj g [zPp p,zi at_,zi n,zi ver,zi used,zi life,.bool false] 180,yA4 (.slice (some ⟨x.1,0,none⟩) ps.length x.2) 9 1 ps.length (ps.map strV)]++R) (fun i=>ps.length-i.1.1) ⟨(0,D),au.symm,zLA _,Nat.le_refl _⟩ xB (xN) (fun ⟨(k,Dk),hr,hk,db⟩=>?_)
 dsimp only at hr hk db ⊢;by_cases hlt:k<ps.length;rotate_left
 ·have aY:k=ps.length:=by omega
  subst aY;rw [List.drop_length] at hr;have ql:decide ((ps.length:Int)<(ps.length:Int))=false:=zZ zO;have h1:aB.1=true:=by rw [← hr];rfl
  have h2:aB.2=Dk:=by rw [← hr];rfl
  rw [h1,h2];repeat' (first|refine yAr ?_;refine yAa (yAd (r:=(used:Int)+co) rfl rfl rfl zO) ?_|refine xqb ?_|refine xsf ?_ ?_|refine xdt zTCC0 ?_|exact xdn ()|apply zN|intro _)
 have ql:decide ((k:Int)<(ps.length:Int))=true:=zY zO;obtain ⟨pc,cK⟩:∃ pc,ps[k]? = some pc:=⟨_,zLb hlt⟩;have bk:=hLe pc (zLk cK);have hdr:ps.drop k=pc::ps.drop (k+1):=by rw [List.drop_eq_getElem_cons hlt];congr 1;exact (zLc.1 cK).2
 have hget:(ps.map strV)[0+((k:Nat):Int).toNat*1]? = some (strV pc):=by rw [zLe,Nat.mul_one,zLq,zLE,cK];rfl
 have eo:((used+k:Nat):Int)=(used:Int)+(k:Int):=zO;have c5:=yYM (W:=W) ver (used+k) eq zO;have c6:=yMJ hN (yA8 ver (used+k):Nat) pc (by unfold yA8;omega) bk;have c7:=yMB (W:=W) (p:=p) (D:=Dk) hE (at_+(used:Nat)+(k:Nat)) (yAF (yA8 ver (used+k):Nat) pc) zO
 have aG:yBU at_ ver used (pc::ps.drop (k+1)) k Dk=if Dk.writeE (at_+(used:Nat)+(k:Nat)) (yAF (yA8 ver (used+k):Nat) pc)≠0 then (false,Dk.writeD (at_+(used:Nat)+(k:Nat)) (yAF (yA8 ver (used+k):Nat) pc))
  else yBU at_ ver used (ps.drop (k+1)) (k+1) (Dk.writeD (at_+(used:Nat)+(k:Nat)) (yAF (yA8 ver (used+k):Nat) pc)):=rfl
 rw [hdr,aG] at hr;have jX:=yDE Dk (at_+(used:Nat)+(k:Nat)) (yAF (yA8 ver (used+k):Nat) pc);obtain ⟨stm,aj⟩:∃ m,m=yA8 ver (used+k):=⟨_,rfl⟩;rw [← aj] at c5 c6 c7 hr jX;obtain ⟨raw,aV⟩:∃ m,m=yAF (stm:Nat) pc:=⟨_,rfl⟩;rw [← aV] at c6 c7 hr jX;obtain ⟨D1,aL⟩:∃ D1,D1=Dk.writeD (at_+(used:Nat)+(k:Nat)) raw:=⟨_,rfl⟩;rw [← aL] at c7 hr jX;obtain ⟨e,he⟩:∃ e,e=Dk.writeE (at_+(used:Nat)+(k:Nat)) raw:=⟨_,rfl⟩;rw [← he] at c7 hr;clear aj aV aL he aG au hdr cK;by_cases hz:e=0
 ·subst hz;rw [if_neg zW] at hr;have j4:CtU prog W 124 [zPp p,zi (at_+(used:Nat)+(k:Nat)),strV raw] [DiskP p Dk] .nilIface [DiskP p D1]:=c7;repeat' (first|refine zad (k+1) ?_|refine yAr ?_;refine yAa (yAd (r:=((used+k:Nat):Int)) rfl rfl eo.symm zO) ?_|refine xqb ?_|refine xsf ?_ ?_|refine xdt zTCC0 ?_|apply zN|intro _)
  all_goals exact yAs ⟨(k+1,D1),hr,by dsimp only;omega,by dsimp only;omega⟩ (by show ps.length-(k+1)<ps.length-k;omega) xB (xN)
 ·rw [if_pos hz] at hr;have h1:aB.1=false:=by rw [← hr]
  have h2:aB.2=D1:=by rw [← hr]
  rw [h1,h2];obtain ⟨ea,bT⟩:=yDf (E:=E) hz;rw [bT] at c7;repeat' (first|refine zad (k+1) ?_|refine yAr ?_;refine yAa (yAd (r:=((used+k:Nat):Int)) rfl rfl eo.symm zO) ?_|refine xqb ?_|refine xsf ?_ ?_|refine xdt zTCC0 ?_|exact xdn ()|apply zN|intro _)
end
end Go.Proofs.YtoipmnikdiogcaaGreatDoor
