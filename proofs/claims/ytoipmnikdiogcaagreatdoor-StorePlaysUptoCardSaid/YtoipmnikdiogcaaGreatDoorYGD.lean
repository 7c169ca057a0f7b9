/-
  Ref7b, Ref8, StD0, StL1, Rdk.
-/
import Derived.Test.YtoipmnikdiogcaaGreatDoorYFY
set_option maxRecDepth 100000
set_option maxHeartbeats 64000000
namespace Go.Proofs.YtoipmnikdiogcaaGreatDoor
open Go Go.RowKit
open Go.Proofs.Tryz
abbrev yY6:Pl:=(po [0,2,3,4,7,9,10,11] (.alt (.ef 1 [11,10,9,7,4,3,2] (.alt (.ef 5 [11,10,9,7] (.op 6 (.op 8 (.ef 12 [8,6,7] (po [13,14,15] .nil))))) (.ef 12 [7,4,3,2] (.op 13 (.ef 5 [13,7] (po [6,8,14,15] .nil)))))) (.ef 12 [7,4,3,2,0] (.op 13 (.ef 1 [13,7,4,3,2] (.ef 5 [13,7] (po [6,8,14,15] .nil)))))))
abbrev yOB:Pl:=(po [0,1,2,3,4,5,6,7,8] .nil)
abbrev yY7:Pl:=(po [0,1,3,4] (.ef 2 [4,3] (.ef 5 [] (po [6,7,8] .nil))))
section
variable {P:Program} {W:World} {n d m:Nat} {k:KK} {E:Env} {H:List SP} {x y z:Operand} {t e:TypeId}
theorem yNh {C:Int} {l:zB} (hx:Env.ev E x=some (zi C)) (hy:Env.ev E y=some (zi C)) [hu:UIs P t (.slice e)] [hs:SzIs P e 1] [hb:ByIs P e 1] [hz:ZcIs P e [.int .u8 0]] (_:t=t) (hC:C=(m:Int)) (hm:m≤140737488355328) (hl:List.replicate m 0=l) (hn:Nat.blt d n=true) (h:∀ g,KJ W n k ((d,.slice (zq g) m m)::E) (yAj g (bvs l) e::H)):KJ W n (.oper P (.makeSlice t x y) (some d) k) E H:=by
 subst hl;exact yF5 hx hy hC hm hn h
theorem yCh {l r:zB} {i j:Int} {ki kj:IntKind} (hx:Env.ev E x=some (strV l)) (hy:Env.ev E y=some (.int ki i)) (hz:Env.ev E z=some (.int kj j)) [hu:UIs P t .string] (hb:0≤i∧i≤j∧j≤l.length) (h:(l.take j.toNat).drop i.toNat=r):Ev P W n E H (.slice t x (some y) (some z) none) (strV r):=by subst h;exact yFm hx hy hz hb
end
section
variable {W:World}
theorem ySQ (pl:zB):CtU prog W 133 [.int .u64 0,strV pl] [] (.tuple #[strV [],zi 6]) []:=by refine zE func133 ntmps133 fun R=>?_;repeat' (first|refine yAt ?_;refine yAa (yCM rfl rfl rfl) ?_|refine xst ?_|refine xsf ?_ ?_|refine xdr 5 yY6 ?_|exact xdn ()|apply zN|intro _)
theorem yJI (aa:Nat) (h0:aa≠0) (aj:aa<2 ^ 64) (pl:zB) (h:pl.length≤234):CtU prog W 133 [.int .u64 (aa:Nat),strV pl] [] (.tuple #[strV (yAF (aa:Nat) pl),zi 0]) []:=by
 have q1:((aa:Nat):Int)≠0:=zO;have q2:decide ((234:Int)<(pl.length:Nat))=false:=zZ zO;have hw:IntKind.u64.wrap (pl.length:Nat)=((pl.length:Nat):Int):=yBC _ zO;obtain ⟨L8,hL8⟩:∃ L,L=yE0 (aa:Nat) 8:=⟨_,rfl⟩;obtain ⟨L2,hL2⟩:∃ L,L=yE0 ((pl.length:Nat):Int) 2:=⟨_,rfl⟩;obtain ⟨Z,hZ⟩:∃ Z:zB,Z=List.replicate (234-pl.length) 0:=⟨_,rfl⟩;have l8:L8.length=8:=by rw [hL8,yAT]
 have l2:L2.length=2:=by rw [hL2,yAT]
 have lz:Z.length=234-pl.length:=by rw [hZ,zLB]
 have c8:CtU prog W 175 [.int .u64 (aa:Nat),zi 8] [] (strV L8) []:=by rw [hL8];exact yNg aa aj 8 zO zO
 have c2:CtU prog W 175 [.int .u64 (pl.length:Nat),zi 2] [] (strV L2) []:=by rw [hL2];exact yNg pl.length zO 2 zO zO
 have bW:L8++L2++pl++Z=yB5 (aa:Nat) pl:=by unfold yB5;rw [hL8,hL2,hZ,hw];simp only [zLd];rfl
 have dw:=yGq ((aa:Nat):Int) pl h;have hcb:=yNe (yB5 (aa:Nat) pl);obtain ⟨C,hC⟩:∃ C:Nat,yDQ (yB5 (aa:Nat) pl)=(C:Nat):=⟨(yDQ (yB5 (aa:Nat) pl)).toNat,zO⟩;have hcC:C<4294967296:=zO;have cs:CtU prog W 176 [strV (L8++L2++pl++Z)] [] (.int .u32 (C:Nat)) []:=by rw [bW,← hC];exact xAx _ zO
 have hwc:IntKind.u64.wrap (C:Nat)=((C:Nat):Int):=yBC _ zO;obtain ⟨L4,hL4⟩:∃ L,L=yE0 (C:Nat) 4:=⟨_,rfl⟩;have l4:L4.length=4:=by rw [hL4,yAT]
 have c4:CtU prog W 175 [.int .u64 (C:Nat),zi 4] [] (strV L4) []:=by rw [hL4];exact yNg C zO 4 zO zO
 have aI:L8++L2++pl++Z++L4++L8=yAF (aa:Nat) pl:=by rw [yP9 _ _ h,bW,hC,hwc,hL4,hL8];simp only [zLd]
 rw [← aI];have hZ':List.replicate (234-pl.length) (0:UInt8)=Z:=hZ.symm;clear aI bW dw hcb hC hL4 hL8 hL2;refine zE func133 ntmps133 fun R=>?_;repeat' (first|refine yGA ?_;refine yNh (m:=234-pl.length) rfl rfl rfl zO zO hZ' rfl (fun g=>?_)|(refine yAr ?_;refine yAa (yFk rfl rfl (by first|omega|(simp only [zLa];omega))) ?_)|refine xqa ?_|refine xsf ?_ ?_|refine xdr 5 yY6 ?_|exact xdn ()|apply zN|intro _)
theorem yVE (aa:Int) (raw:zB) (h:raw.length≠256):CtU prog W 216 [.int .u64 aa,strV raw] [] (.tuple #[strV [],.bool false]) []:=by have q1:((raw.length:Nat):Int)≠256:=zO;refine zE func216 ntmps216 fun R=>?_;repeat' (first|refine xqa ?_|refine xsf ?_ ?_|refine xdr 3 yOB ?_|exact xdn ()|apply zN|intro _)
theorem yNi (aa:Nat) (aj:aa<2 ^ 64) (raw:zB):CtU prog W 216 [.int .u64 (aa:Nat),strV raw] [] (.tuple #[strV ((yCq (aa:Nat) raw).getD []),.bool (yCq (aa:Nat) raw).isSome]) []:=by
 by_cases hl:raw.length≠256
 ·have e:yCq (aa:Nat) raw=none:=by unfold yCq;rw [if_pos hl];split <;> rfl
  rw [e];exact yVE _ raw hl
 have hl:raw.length=256:=zO;have q1:((raw.length:Nat):Int)=256:=zO;obtain ⟨c8,h8⟩:∃ c,raw[8]? = some c:=⟨_,zLb zO⟩;obtain ⟨c9,h9⟩:∃ c,raw[9]? = some c:=⟨_,zLb zO⟩;have hN:yDD raw=c8.toNat+256*c9.toNat:=by rw [yVD];simp [List.getD,h8,h9]
 have b8:=zLy c8;have b9:=zLy c9;have hm:(256:Int)*((c9.toNat:Nat):Int)=((256*c9.toNat:Nat):Int):=zO;have ha:((c8.toNat:Nat):Int)+((256*c9.toNat:Nat):Int)=((yDD raw:Nat):Int):=by rw [hN];omega
 have i8:raw[(8:Int).toNat]? = some c8:=h8;have i9:raw[(9:Int).toNat]? = some c9:=h9;have hn:yDD raw<65536+256:=zO;obtain ⟨n,dc⟩:∃ n,n=yDD raw:=⟨_,rfl⟩;by_cases cM:234<yDD raw
 ·have q2:decide ((234:Int)<((n:Nat):Int))=true:=zY zO;have e:yCq (aa:Nat) raw=none:=by unfold yCq;rw [if_neg (show ¬ raw.length≠256 by omega),if_pos cM];split <;> rfl
  rw [e];rw [← dc] at ha hn;refine zE func216 ntmps216 fun R=>?_;repeat' (first|refine xqa ?_|refine xsf ?_ ?_|refine xdr 3 yOB ?_|exact xdn ()|apply zN|intro _)
 ·have q2:decide ((234:Int)<((n:Nat):Int))=false:=zZ zO;have hP:(raw.take (((10+n:Nat):Int)).toNat).drop (10:Int).toNat=yEy raw:=by rw [zLe,dc];rfl
  have hPl:(yEy raw).length≤234:=by rw [yEF raw hl zO];omega
  rw [← dc] at ha hn;obtain ⟨pl,bk⟩:∃ pl,pl=yEy raw:=⟨_,rfl⟩;have e:yCq (aa:Nat) raw=if ((aa:Nat):Int)=0 then none else if yAF (aa:Nat) pl=raw then some pl else none:=by unfold yCq;rw [if_neg (show ¬ raw.length≠256 by omega),if_neg cM,bk]
  rw [← bk] at hP hPl;rw [e];by_cases h0:aa=0
  ·subst h0;rw [if_pos zW];have c1:=ySQ (W:=W) pl;refine zE func216 ntmps216 fun R=>?_;repeat' (first|refine yBb ?_;refine yAa (yCh rfl rfl rfl zO hP) ?_|refine zad (10+n) ?_|refine yAo ?_;refine yAa (yBe rfl rfl zX) ?_|refine xqa ?_|refine xsf ?_ ?_|refine xdr 3 yOB ?_|exact xdn ()|apply zN|intro _)
  ·rw [if_neg zO];have c1:=yJI (W:=W) aa h0 aj pl hPl;by_cases hs:yAF (aa:Nat) pl=raw
   ·rw [if_pos hs];refine zE func216 ntmps216 fun R=>?_;repeat' (first|refine yBb ?_;refine yAa (yCh rfl rfl rfl zO hP) ?_|refine zad (10+n) ?_|(refine yAo ?_;first|refine yAa (yDO rfl rfl hs) ?_|refine yAa (yAz rfl rfl (by rfl)) ?_)|refine xqa ?_|refine xsf ?_ ?_|refine xdr 3 yOB ?_|exact xdn ()|apply zN|intro _)
   ·rw [if_neg hs];refine zE func216 ntmps216 fun R=>?_;repeat' (first|refine yBb ?_;refine yAa (yCh rfl rfl rfl zO hP) ?_|refine zad (10+n) ?_|refine yAo ?_;refine yAa (yAz rfl rfl (by rfl)) ?_|refine xqa ?_|refine xsf ?_ ?_|refine xdr 3 yOB ?_|exact xdn ()|apply zN|intro _)
theorem yXW (raw:zB):CtU prog W 215 [strV raw] [] (.tuple #[.int .u64 (yW2 raw),.int .u64 (yW3 raw),zi (yR4 raw:Nat)]) []:=by
 unfold yW2 yW3 yR4;by_cases hl:raw.length=256
 ·rw [if_pos hl,if_pos hl,if_pos hl];have q1:((raw.length:Nat):Int)=256:=zO;have hH:yDX (raw.take 8) 8=yDX raw 8:=by obtain ⟨v,hv,hg,hb⟩:=yGF raw 8 zO;rw [hg,yMK _ v 8 zO (fun i hi=>by rw [← hb i hi];simp [List.getD,hi]),Nat.mod_eq_of_lt hv]
  have c1:CtU prog W 233 [strV (raw.take (8:Int).toNat)] [] (.int .u64 (yDX raw 8)) []:=by rw [← hH];exact yK3 (raw.take 8) (by simp;omega)
  have c2:CtU prog W 233 [strV (raw.drop (248:Int).toNat)] [] (.int .u64 (yDX (raw.drop 248) 8)) []:=yK3 (raw.drop 248) (by simp;omega);refine zE func215 ntmps215 fun R=>?_;repeat' (first|(refine yBb ?_;first|refine yAa (yB0 rfl rfl zO) ?_|refine yAa (yFn rfl rfl zO) ?_)|refine xqa ?_|refine xsf ?_ ?_|refine xdr 3 yY7 ?_|exact xdn ()|apply zN|intro _)
 ·rw [if_neg hl,if_neg hl,if_neg hl];have q1:((raw.length:Nat):Int)≠256:=zO;refine zE func215 ntmps215 fun R=>?_;repeat' (first|refine xqa ?_|refine xsf ?_ ?_|refine xdr 3 yY7 ?_|exact xdn ()|apply zN|intro _)
end
section
variable {W:World}
theorem yXX (raw:zB) (k:Int):CtU prog W 172 [strV raw,zi k] [] (.tuple #[strV (yCZ raw k),zi (yA6 raw k)]) []:=by
 have c1:=yXW (W:=W) raw;by_cases hl:raw.length=256;rotate_left
 ·have e:yDh raw k=none:=by unfold yDh;rw [if_pos hl]
  have e1:yCZ raw k=[]:=by unfold yCZ;rw [e];rfl
  have e2:yA6 raw k=0:=by unfold yA6;rw [e];rfl
  have e3:yR4 raw=7:=by unfold yR4;rw [if_neg hl]
  rw [e3] at c1;rw [e1,e2];refine zE func172 ntmps172 fun R=>?_;repeat' (first|refine yAo ?_;refine yAa (yBe rfl rfl zX) ?_|refine xst ?_|refine xsf ?_ ?_|exact xdn ()|intro _)
 obtain ⟨V,hV,hg,_⟩:=yGF raw 8 zO;obtain ⟨T,hT,kw,_⟩:=yGF (raw.drop 248) 8 zO;have e3:yR4 raw=0:=by unfold yR4;rw [if_pos hl]
 have e4:yW2 raw=(V:Nat):=by unfold yW2;rw [if_pos hl,hg]
 have e5:yW3 raw=(T:Nat):=by unfold yW3;rw [if_pos hl,kw]
 rw [e3,e4,e5] at c1;have hO:yDh raw k=if ((V:Nat):Int)≠(T:Nat) then none else if ((V:Nat):Int)<1 then none else if 1099511627776<((V:Nat):Int) then none else if ((V:Nat):Int) % 2≠k then none else (yCq (V:Nat) raw).map fun v=>(((V:Nat):Int),v):=by unfold yDh;rw [if_neg (show ¬ raw.length≠256 by omega),hg,kw]
 have aT:yDh raw k=none→yCZ raw k=[]∧yA6 raw k=0:=fun e=>by unfold yCZ yA6;rw [e];exact ⟨rfl,rfl⟩
 clear e3 e4 e5 hg kw hT;by_cases h1:((V:Nat):Int)≠(T:Nat)
 ·rw [if_pos h1] at hO;rw [(aT hO).1,(aT hO).2];refine zE func172 ntmps172 fun R=>?_;repeat' (first|refine yAo ?_;refine yAa (yAz rfl rfl (by rfl)) ?_|refine xqa ?_|refine xsf ?_ ?_|exact xdn ()|intro _)
 have h1:((V:Nat):Int)=(T:Nat):=zO;rw [if_neg zO] at hO;by_cases h2:((V:Nat):Int)<1
 ·rw [if_pos h2] at hO;rw [(aT hO).1,(aT hO).2];have q2:decide (((V:Nat):Int)<1)=true:=zY h2;refine zE func172 ntmps172 fun R=>?_;repeat' (first|refine yAo ?_;refine yAa (yAz rfl rfl (by rfl)) ?_|refine xqa ?_|refine xsf ?_ ?_|exact xdn ()|intro _)
 rw [if_neg h2] at hO;have q2:decide (((V:Nat):Int)<1)=false:=zZ h2;by_cases h3:1099511627776<((V:Nat):Int)
 ·rw [if_pos h3] at hO;rw [(aT hO).1,(aT hO).2];have q3:decide (1099511627776<((V:Nat):Int))=true:=zY h3;refine zE func172 ntmps172 fun R=>?_;repeat' (first|refine yAo ?_;refine yAa (yAz rfl rfl (by rfl)) ?_|refine xqa ?_|refine xsf ?_ ?_|exact xdn ()|intro _)
 rw [if_neg h3] at hO;have q3:decide (1099511627776<((V:Nat):Int))=false:=zZ h3;have hr:((V:Nat):Int) % 2=((V % 2:Nat):Int):=zO;have hcv:IntKind.i64.wrap ((V % 2:Nat):Int)=((V % 2:Nat):Int):=yJP _ zO;by_cases h4:((V:Nat):Int) % 2≠k
 ·rw [if_pos h4] at hO;rw [(aT hO).1,(aT hO).2];rw [hr] at h4;refine zE func172 ntmps172 fun R=>?_;repeat' (first|refine yBu ?_;refine yAa (yIk rfl rfl zO hr) ?_|refine yAo ?_;refine yAa (yAz rfl rfl (by rfl)) ?_|refine xqa ?_|refine xsf ?_ ?_|exact xdn ()|intro _)
 rw [if_neg h4] at hO;have h4:((V % 2:Nat):Int)=k:=zO;have c2:=yNi (W:=W) V hV raw;have hcw:IntKind.i64.wrap ((V:Nat):Int)=((V:Nat):Int):=yJP _ zO;cases ho:yCq ((V:Nat):Int) raw with
 |none=>
  rw [ho] at hO c2;rw [(aT hO).1,(aT hO).2];have iU:CtU prog W 216 [.int .u64 (V:Nat),strV raw] [] (.tuple #[strV [],.bool false]) []:=c2;refine zE func172 ntmps172 fun R=>?_;repeat' (first|refine yBu ?_;refine yAa (yIk rfl rfl zO hr) ?_|refine yAo ?_;refine yAa (yAz rfl rfl (by rfl)) ?_|refine xqa ?_|refine xsf ?_ ?_|exact xdn ()|intro _)
 |some v=>
  rw [ho] at hO c2;have e1:yCZ raw k=v:=by unfold yCZ;rw [hO];rfl
  have e2:yA6 raw k=(V:Nat):=by unfold yA6;rw [hO];rfl
  rw [e1,e2];have iU:CtU prog W 216 [.int .u64 (V:Nat),strV raw] [] (.tuple #[strV v,.bool true]) []:=c2;refine zE func172 ntmps172 fun R=>?_;repeat' (first|refine yBu ?_;refine yAa (yIk rfl rfl zO hr) ?_|refine yAo ?_;refine yAa (yAz rfl rfl (by rfl)) ?_|refine xqa ?_|refine xsf ?_ ?_|exact xdn ()|intro _)
section
variable {P:Program} {n:Nat} {E:Env} {H:List SP} {x y:Operand} {t u:TypeId}
theorem yIW {i j r:Int} (hx:Env.ev E x=some (zi i)) (hy:Env.ev E y=some (zi j)) (hb:0≤i∧i≤9223372036854775807∧0<j) (h:i / j=r):Ev P W n E H (.binOp .quo t x y u) (zi r):=by subst h;exact yO0 hx hy hb
end
theorem yXY {aD:zB} {N:Nat} (hN:aD.length=N*256) (at_:Int):(Dsk.of aD).roomB at_=decide (0≤at_∧at_≤(N:Int)-2):=by
 have e:(Dsk.of aD).n=N:=by show aD.length / 256=N;omega
 unfold Dsk.roomB;rw [e]
theorem yVF (aD:zB) (N:Nat) (hN:aD.length=N*256) (hN2:N≤65536) (at_:Int):CtU prog W 128 [strV aD,zi at_] [] (.tuple #[strV (yBT (Dsk.of aD) at_),zi (yB6 (Dsk.of aD) at_),zi (yBA (Dsk.of aD) at_:Nat)]) []:=by
 have hq:((aD.length:Nat):Int) / 256=((N:Nat):Int):=zO;have ah:=yXY hN at_;by_cases hr:0≤at_∧at_≤(N:Int)-2;rotate_left
 ·have e:yBA (Dsk.of aD) at_=6:=by unfold yBA;rw [ah,if_pos (zZ hr)]
  have e1:yBT (Dsk.of aD) at_=[]:=by unfold yBT;rw [e];rfl
  have e2:yB6 (Dsk.of aD) at_=0:=by unfold yB6;rw [e];rfl
  rw [e,e1,e2];by_cases h0:at_<0
  ·have q1:decide (at_<0)=true:=zY h0;refine zE func128 ntmps128 fun R=>?_;repeat' (first|refine yEm ?_;refine yAa (yIW rfl rfl zO hq) ?_|refine xqa ?_|refine xsf ?_ ?_|exact xdn ()|intro _)
  ·have q1:decide (at_<0)=false:=zZ h0;have q2:decide ((N:Int)-2<at_)=true:=zY zO;refine zE func128 ntmps128 fun R=>?_;repeat' (first|refine yEm ?_;refine yAa (yIW rfl rfl zO hq) ?_|refine xqa ?_|refine xsf ?_ ?_|exact xdn ()|intro _)
 obtain ⟨a,rfl⟩:∃ a:Nat,at_=(a:Int):=⟨at_.toNat,zO⟩;have q1:decide (((a:Nat):Int)<0)=false:=zZ zO;have q2:decide ((N:Int)-2<((a:Nat):Int))=false:=zZ zO;rw [zY hr] at ah;have hE:yBA (Dsk.of aD) (a:Nat)=if yA3 (Dsk.of aD) a 2=0 then 14 else 0:=by unfold yBA;rw [if_neg (by rw [ah];simp),if_neg (by show ¬ (false=true);simp),zLe]
 obtain ⟨D,hD⟩:∃ D,D=Dsk.of aD:=⟨_,rfl⟩;have jg:∀ i,D.rd i=cut aD (i*256) 256:=fun i=>by rw [hD];show (yG0 [] i).getD _=_;rw [yHy];rfl
 have eq:∀ k,yA3 D a (k+1)=if yA3 D a k<yA6 (cut aD ((a+k)*256) 256) k then yA6 (cut aD ((a+k)*256) 256) k else yA3 D a k:=fun k=>by rw [← jg];rfl
 have eZ:∀ k,yBX D a (k+1)=if yA3 D a k<yA6 (cut aD ((a+k)*256) 256) k then yCZ (cut aD ((a+k)*256) 256) k else yBX D a k:=fun k=>by rw [← jg];rfl
 have hS:yBT D (a:Nat)=if yA3 D a 2=0 then [] else yBX D a 2:=by unfold yBT;rw [hD,hE,zLe];split <;> simp_all
 have hNn:yB6 D (a:Nat)=if yA3 D a 2=0 then 0 else yA3 D a 2:=by unfold yB6;rw [hD,hE,zLe];split <;> simp_all
 rw [← hD] at hE ⊢;have v0:yA3 D a 0=0:=rfl;have w0:yBX D a 0=[]:=rfl;clear hD jg ah;refine zE func128 ntmps128 fun R=>?_;repeat' (first|refine yEm ?_;refine yAa (yIW rfl rfl zO hq) ?_|refine xqa ?_|refine xsf ?_ ?_|intro _)
 refine yAC (fun k:{k:Nat//k≤2}=>[(0,strV aD),(1,zi (a:Nat)),(8,strV (yBX D a k.1)),(9,zi (yA3 D a k.1)),(10,zi (k.1:Nat))]) (fun _=>R) (fun k=>2-k.1) ⟨0,zO⟩ ?_ (fun _ q=>q) (fun ⟨k,hk⟩=>?_)
 ·dsimp only;rw [v0,w0];exact xB
 dsimp only;by_cases hlt:k<2
 ·have hvk:=eq k;have et:=eZ k;obtain ⟨raw,aV⟩:∃ raw,raw=cut aD ((a+k)*256) 256:=⟨_,rfl⟩;rw [← aV] at hvk et;have cs:=yXX (W:=W) raw ((k:Nat):Int);have fx:(aD.take ((((a+k)*256+256:Nat):Int)).toNat).drop ((((a+k)*256:Nat):Int)).toNat=raw:=by rw [zLe,zLe,List.drop_take,aV];unfold cut;congr 1;omega
  have hAK:((a:Nat):Int)+((k:Nat):Int)=((a+k:Nat):Int):=zO;have hMK:((a+k:Nat):Int)*256=(((a+k)*256:Nat):Int):=zO;have hPK:(((a+k)*256:Nat):Int)+256=(((a+k)*256+256:Nat):Int):=zO;by_cases hc:yA3 D a k<yA6 raw k
  ·rw [if_pos hc] at hvk et;have q3:decide (yA3 D a k<yA6 raw k)=true:=zY hc;repeat' (first|refine yBb ?_;refine yAa (yCh rfl rfl rfl zO fx) ?_|refine zad (k+1) ?_|refine xqa ?_|refine xsf ?_ ?_|intro _)
   all_goals refine yAs ⟨k+1,zO⟩ (by show 2-(k+1)<2-k;omega) ?_ (fun _ q=>q)
   all_goals dsimp only
   all_goals rw [hvk,et]
   all_goals exact xB
  ·rw [if_neg hc] at hvk et;have q3:decide (yA3 D a k<yA6 raw k)=false:=zZ hc;repeat' (first|refine yBb ?_;refine yAa (yCh rfl rfl rfl zO fx) ?_|refine zad (k+1) ?_|refine xqa ?_|refine xsf ?_ ?_|intro _)
   all_goals refine yAs ⟨k+1,zO⟩ (by show 2-(k+1)<2-k;omega) ?_ (fun _ q=>q)
   all_goals dsimp only
   all_goals rw [hvk,et]
   all_goals exact xB
 ·have aW:k=2:=by omega
  subst aW;by_cases hz:yA3 D a 2=0
  ·rw [hS,hNn,hE,if_pos hz,if_pos hz,if_pos hz];repeat' (first|refine xqa ?_|refine xsf ?_ ?_|exact xdn ()|intro _)
  ·rw [hS,hNn,hE,if_neg hz,if_neg hz,if_neg hz];repeat' (first|refine xqa ?_|refine xsf ?_ ?_|exact xdn ()|intro _)
end
theorem yRm {D:Dsk} (h:D.und=[]) (k:Nat):D.rd k=D.sec k:=by unfold Dsk.rd;rw [h];rfl
theorem xAy {a b:zB} (ha:a.length=256):(Dsk.of (a++b)).sec 0=a:=by show cut (a++b) (0*256) 256=a;unfold cut;rw [Nat.zero_mul,zLo,List.take_append_of_le_length zO,zLi zO]
theorem xAz {a b:zB} (ha:a.length=256) (hb:b.length=256):(Dsk.of (a++b)).sec 1=b:=by show cut (a++b) (1*256) 256=b;unfold cut;rw [List.drop_append_of_le_length zO,zLl zO,List.nil_append,zLi zO]
theorem ySR {D D':Dsk} (h0:D.rd 0=D'.rd 0) (h1:D.rd 1=D'.rd 1):yA3 D 0 2=yA3 D' 0 2∧yBX D 0 2=yBX D' 0 2:=by
 have e:∀ k,k<2→D.rd (0+k)=D'.rd (0+k):=fun k hk=>by
  rw [zLq];rcases (show k=0∨k=1 by omega) with rfl|rfl
  ·exact h0
  ·exact h1
 have g1:yA3 D 0 1=yA3 D' 0 1:=by unfold yA3;rw [e 0 zO];rfl
 have g2:yBX D 0 1=yBX D' 0 1:=by unfold yBX;rw [e 0 zO];rfl
 constructor
 ·unfold yA3;rw [e 1 zO,g1]
 ·unfold yBX;rw [e 1 zO,g1,g2]
theorem yXZ {D:Dsk} (h:Still D) (hn:2≤D.n):yBA (Dsk.of (D.sec 0++D.sec 1)) 0=yBA D 0∧yB6 (Dsk.of (D.sec 0++D.sec 1)) 0=yB6 D 0∧yBT (Dsk.of (D.sec 0++D.sec 1)) 0=yBT D 0:=by
 have hl:=h.ok.len;have l0:(D.sec 0).length=256:=yBY _ _ _ zO;have l1:(D.sec 1).length=256:=yBY _ _ _ zO;have r0:(Dsk.of (D.sec 0++D.sec 1)).rd 0=D.rd 0:=by rw [yRm rfl,yRm h.und,xAy l0]
 have r1:(Dsk.of (D.sec 0++D.sec 1)).rd 1=D.rd 1:=by rw [yRm rfl,yRm h.und,xAz l0 l1]
 obtain ⟨v1,v2⟩:=ySR r0 r1;have cO:(Dsk.of (D.sec 0++D.sec 1)).n=2:=by show (D.sec 0++D.sec 1).length / 256=2;rw [zLa,l0,l1]
 have m0:(Dsk.of (D.sec 0++D.sec 1)).roomB 0=true:=by unfold Dsk.roomB;exact zY zO
 have m1:D.roomB 0=true:=by unfold Dsk.roomB;exact zY zO
 have hE:yBA (Dsk.of (D.sec 0++D.sec 1)) 0=yBA D 0:=by unfold yBA;rw [m0,m1,h.on,show (Dsk.of (D.sec 0++D.sec 1)).off=false from rfl,show (0:Int).toNat=0 from rfl,v1]
 refine ⟨hE,?_,?_⟩
 ·unfold yB6;rw [hE,show (0:Int).toNat=0 from rfl,v1]
 ·unfold yBT;rw [hE,show (0:Int).toNat=0 from rfl,v2]
section
variable {W:World} {F:Nat→Addr} {n:Nat}
theorem yVG {P:Program} {k:Nat} {E:Env} {H:List SP} {x y:Operand} {kd:IntKind} {i j m:Int} {ts:Array TypeId} (hx:Env.ev E x=some (.int kd i)) (hy:Env.ev E y=some (.int kd j)) (h:min i j=m):Ev P W k E H (.call { callee:=.builtin .min,args:=#[x,y],argTypes:=ts }) (.int kd m):=by subst h;exact yQs hx hy
instance xCB:FnIs prog 64:=⟨zK⟩
instance xB1:FnIs prog 67:=⟨zK⟩
abbrev xDr:Value:=.agg #[zi 0,zi 0,zi 0,zi 0,zi 0]
theorem yK4 (i:Int) (h:i<64):CtU prog W 64 [zi i] [] (.tuple #[xDr,zi 13]) []:=by
 have q1:decide (i<64)=true:=zY h;refine zE func64 ntmps64 fun R=>?_;repeat' (first|refine zal fun g=>?_|refine xqa ?_|refine xsf ?_ ?_|intro _)
 all_goals (refine yCu ?_;exact yA5 zor rfl (Rvs.agg (T:=80) rfl inferInstance inferInstance xS xC (Rvs.tmp rfl Rvs.nil)) () (by rfl) (xN))
theorem yGV (h1:64≤n) (h2:n≤65536):CtU prog W 64 [zi (n:Nat)] [] (.tuple #[.agg (yOj n).toArray,zi 0]) []:=by
 have hq:((n:Int)-2) / 3=(yAA n:Nat):=by unfold yAA;omega
 have hA:=yBr h2;have e1:(2:Int)+(yAA n:Nat)=(2+yAA n:Nat):=zO;have e2:(2:Int)*(yAA n:Nat)=(2*yAA n:Nat):=zO;have e3:(2:Int)+(2*yAA n:Nat)=(yAN n:Nat):=by unfold yAN;omega
 have e4:(n:Int)-2-(2*yAA n:Nat)=(yA7 n:Nat):=by unfold yA7 yAA;omega
 have b3:=yBf h1 0;have q1:decide ((n:Int)<64)=false:=zZ zO;have q2:decide (65536<(n:Int))=false:=zZ zO;refine zE func64 ntmps64 fun R=>?_;repeat' (first|refine zal fun g=>?_|refine xqa ?_|refine xsf ?_ ?_|intro _)
 all_goals (refine yCu ?_;exact yA5 zor rfl (Rvs.agg (T:=80) rfl inferInstance inferInstance xS xC (Rvs.tmp rfl Rvs.nil)) () (by rfl) (xN))
theorem yFa (h2:n≤65536):CtU prog W 67 [zi (n:Nat)] [] (zi (234*n:Nat)) []:=by have e1:max ((n:Nat):Int) 0=((n:Nat):Int):=zO;have e2:min ((n:Nat):Int) 65536=((n:Nat):Int):=zO;have e3:(234:Int)*((n:Nat):Int)=((234*n:Nat):Int):=zO;refine zE func67 ntmps67 fun R=>?_;repeat' (first|refine yDg ?_;refine yAa (yVG rfl rfl e2) ?_|refine xqa ?_|refine xsf ?_ ?_|exact xdn ()|intro _)
end
section
variable {W:World} {n:Nat} {k:KK} {E:Env} {H R:List SP}
theorem KJ.row_shape {v:Value} {e size m:Nat} {xs:List Value} (ap:Sel (yA4 v e size m xs) H R) (hm:0<m) (h:∀ g c,v=.slice (zq g) m c→KJ W n k E H):KJ W n k E H:=
 ⟨fun a w p s=>by
  rcases (s.left.row ap).2 with ⟨_,q⟩|⟨g,c,_,q,_⟩
  ·omega
  ·exact (h g c q).go a w p s⟩
theorem KJ.row_slice {v:Value} {e size m:Nat} {xs:List Value} (ap:Sel (yA4 v e size m xs) H R) (h:∀ ad c,v=.slice ad m c→KJ W n k E H):KJ W n k E H:=
 ⟨fun a w p s=>by
  rcases (s.left.row ap).2 with ⟨q,q2⟩|⟨g,c,_,q,_⟩
  ·subst q2;exact (h none 0 q).go a w p s
  ·exact (h _ c q).go a w p s⟩
end
def yBy (img:zB) (n:Nat):List Value:=(List.range n).map fun i=>strV (cut img (i*256) 256)
def yBV (u:List (Nat × zB)):List Value:=u.flatMap fun x=>[zi (x.1:Nat),strV x.2]
theorem yBs (img:zB) (n:Nat):(yBy img n).length=n:=by simp [yBy]
theorem yGr (img:zB) (n i:Nat) (h:i<n):(yBy img n)[i]? = some (strV (cut img (i*256) 256)):=by simp [yBy,h]
theorem yK5 (u:List (Nat × zB)) (k j:Nat) (b:zB) (h:u[k]? = some (j,b)) (z:Nat) (v:Value) (hv:[Value.int .i64 (j:Nat),strV b][z]? = some v):(yBV u)[k*2+z]? = some v:=by
 have hz:z<2:=by have:=(zLc.1 hv).1;simpa using this
 rw [← hv];exact yQu _ 2 u (fun _ _=>rfl) k (j,b) h z hz
theorem ySS (u:List (Nat × zB)) (j:Nat) (b:zB):yBV (u++[(j,b)])=yBV u++[zi (j:Nat),strV b]:=by simp [yBV]
theorem yOC {img b:zB} {n i:Nat} (hl:img.length=256*n) (hi:i<n) (hb:b.length≤256) :lay (yBy img n) i [strV (b++(cut img (i*256) 256).drop b.length)]=yBy (lay img (i*256) b) n:=by
 apply List.ext_getElem
 ·rw [yBL _ _ _ (by rw [yBs];simp;omega),yBs,yBs]
 ·intro j h1 h2;rw [yBs] at h2;have hr:(yBy (lay img (i*256) b) n)[j]? = some (strV (cut (lay img (i*256) b) (j*256) 256)):=yGr _ _ _ h2;have bS:(lay (yBy img n) i [strV (b++(cut img (i*256) 256).drop b.length)])[j]? = some (strV (cut (lay img (i*256) b) (j*256) 256)):=by
   by_cases hji:j=i
   ·subst hji;have e:cut (lay img (j*256) b) (j*256) 256=b++(cut img (j*256) 256).drop b.length:=by unfold cut lay;rw [List.drop_left' (by simp;omega),zLF,zLi zO,List.drop_take,List.drop_drop]
    rw [e];unfold lay;rw [zLn (by simp [yBs];omega),zLg,yBs,Nat.min_eq_left zO,Nat.sub_self];rfl
   ·have e:cut (lay img (i*256) b) (j*256) 256=cut img (j*256) 256:=by
     rcases Nat.lt_or_ge j i with hlt|gu
     ·exact yEQ _ _ _ _ _ zO zO
     ·exact yDJ _ _ _ _ _ zO zO
    rw [e,← yGr img n j h2];unfold lay;rcases Nat.lt_or_ge j i with hlt|gu
    ·rw [zLp (by simp [yBs];omega),List.getElem?_take_of_lt hlt]
    ·rw [zLn (by simp [yBs];omega),zLg,yBs,Nat.min_eq_left zO,zLn (by simp;omega),zLC];congr 1;simp;omega
  rw [zLb h1] at bS;rw [zLb (by rw [yBs];exact h2)] at hr;rw [← hr] at bS;exact Option.some.inj bS
def xAA (sv wv:Value) (D:Dsk):List Value:=[sv,wv,.bool D.off,.bool (decide (0≤D.armed)),zi (max D.armed 0),zi D.writes,zi D.flushes,zi D.life]
def yCE (p:Nat) (D:Dsk) (x:Value × Value):List SP:=[yAj p (xAA x.1 x.2 D) 52,yA4 x.1 9 1 D.n (yBy D.img D.n),yA4 x.2 128 2 D.und.length (yBV D.und)]
def yA1 (p:Nat) (D:Dsk):SP:=yHl 21 p (yCE p D)
section
variable {W:World} {p:Nat} {D:Dsk}
theorem yX0:CtU prog W 217 [zPp p] [yA1 p D] (zi D.n) [yA1 p D]:=by
 refine yJ6 (Hs:=[]) (fun ⟨sv,wv⟩=>?_);refine zE func217 ntmps217 fun R=>?_;show KJ _ _ _ _ ([yAj p [sv,wv,.bool D.off,.bool (decide (0≤D.armed)),zi (max D.armed 0),zi D.writes,zi D.flushes,zi D.life] 52,yA4 sv 9 1 D.n (yBy D.img D.n),yA4 wv 128 2 D.und.length (yBV D.und)]++R);refine KJ.row_slice (v:=sv) xS (fun ad c e=>?_);subst e;repeat' (first|refine xst ?_|refine xsf ?_ ?_|intro _)
 refine yA5 zor rfl (by (repeat' (first|exact Rvs.nil|(apply Rvs.tmp;exact rfl)));first|done|fail) () (by rfl) (fun g q=>yDP (F:=yCE p D) (_,wv) g ((xN) g q))
end
end Go.Proofs.YtoipmnikdiogcaaGreatDoor
