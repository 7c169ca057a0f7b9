/-
  Sec4, Slo, Slo2, Slo3, Rt, Errq, Are.
-/
import Derived.Test.YtoipmnikdiogcaaGreatDoorYBM
import Derived.Lib.LaidTab
set_option maxRecDepth 100000
set_option maxHeartbeats 64000000
namespace Go.Proofs.YtoipmnikdiogcaaGreatDoor
open Go Go.RowKit
open Go.Proofs.Tryz
abbrev yD0:Pl:=(po [0,1,2,3] .nil)
abbrev zTBT0:List (Nat×Pl):=[(2,yD0),(15,yD0)]
def yDD (raw:zB):Nat:=(yDX (raw.drop 8) 2).toNat
def yEy (raw:zB):zB:=(raw.take (10+yDD raw)).drop 10
def yCq (aa:Int) (raw:zB):Option zB:=
 if aa=0 then none else if raw.length≠256 then none else if 234<yDD raw then none else if yAF aa (yEy raw)=raw then some (yEy raw) else none
theorem yUj {W:World} (raw:zB):CtU prog W 149 [.int .u64 0,strV raw] [] (.tuple #[strV [],.bool false]) []:=by refine zE func149 ntmps149 fun R=>?_;repeat' (first|refine yAt ?_;refine yAa (yCM rfl rfl rfl) ?_|refine xst ?_|refine xsf ?_ ?_|exact xdn ()|intro _)
theorem yW5 {W:World} (aa:Int) (raw:zB) (h0:aa≠0) (h1:raw.length≠256):CtU prog W 149 [.int .u64 aa,strV raw] [] (.tuple #[strV [],.bool false]) []:=by have ao:(raw.length:Int)≠256:=zO;refine zE func149 ntmps149 fun R=>?_;repeat' (first|refine xqb ?_|refine xsf ?_ ?_|exact xdn ()|intro _)
theorem yNS (raw:zB):yDX (raw.drop 8) 2=(yDD raw:Int)∧yDD raw<65536:=by have:=yW1 (raw.drop 8);unfold yDD;omega
theorem yEF (raw:zB) (h1:raw.length=256) (h2:yDD raw≤234):(yEy raw).length=yDD raw:=by unfold yEy;rw [zLf,zLg];omega
theorem yUk {W:World} (aa:Int) (raw:zB) (h0:aa≠0) (h1:raw.length=256) (h2:234<yDD raw):CtU prog W 149 [.int .u64 aa,strV raw] [] (.tuple #[strV [],.bool false]) []:=by
 have hq:(raw.length:Int)=256:=zO;obtain ⟨e1,e2⟩:=yNS raw;have c1:CtU prog W 186 [strV (raw.drop (8:Int).toNat),zi 2] [] (.int .u64 (yDD raw:Nat)) []:=by rw [← e1];exact yQH (raw.drop 8) 2 (by rw [zLf];omega) zO
 have jx:decide ((234:Int)<(yDD raw:Nat))=true:=zY zO;refine zE func149 ntmps149 fun R=>?_;repeat' (first|refine yAu ?_;refine yAa (yCA rfl zO) ?_|refine yBb ?_;refine yAa (yB0 rfl rfl zO) ?_|refine xqb ?_|refine xsf ?_ ?_|exact xdn ()|intro _)
theorem yNT {W:World} (hN:NibAt W) (aa:Int) (raw:zB) (h0:aa≠0) (h1:raw.length=256) (h2:yDD raw≤234) (q:Bool) (hs:decide (yAF aa (yEy raw)≠raw)=q) :CtU prog W 149 [.int .u64 aa,strV raw] [] (.tuple #[strV (if q then [] else yEy raw),.bool (!q)]) []:=by
 have hq:(raw.length:Int)=256:=zO;obtain ⟨e1,e2⟩:=yNS raw;have c1:CtU prog W 186 [strV (raw.drop (8:Int).toNat),zi 2] [] (.int .u64 (yDD raw:Nat)) []:=by rw [← e1];exact yQH (raw.drop 8) 2 (by rw [zLf];omega) zO
 have jx:decide ((234:Int)<(yDD raw:Nat))=false:=zZ zO;have bk:=yEF raw h1 h2;have c2:CtU prog W 123 [.int .u64 aa,strV (yEy raw)] [] (.tuple #[strV (yAF aa (yEy raw)),.nilIface]) []:=yMJ hN aa _ h0 zO;have ep:(raw.take ((10:Int)+(yDD raw:Nat)).toNat).drop (10:Int).toNat=yEy raw:=by unfold yEy;rw [show ((10:Int)+(yDD raw:Nat)).toNat=10+yDD raw from by omega];rfl
 have dw:∀ {n:Nat} {E:Env} {H:List SP} {x y z:Operand},Env.ev E x=some (strV raw)→Env.ev E y=some (zi 10)→Env.ev E z=some (zi ((10:Int)+(yDD raw:Nat)))→Ev prog W n E H (.slice 9 x (some y) (some z) none) (strV (yEy raw)):=fun hx hy hz=>by rw [← ep];exact yFm hx hy hz zO
 have bH:∀ {n:Nat} {E:Env} {H:List SP} {x y:Operand} {t u:TypeId},Env.ev E x=some (strV (yAF aa (yEy raw)))→Env.ev E y=some (strV raw)→Ev prog W n E H (.binOp .neq t x y u) (.bool q):=fun hx hy=>by rw [← hs];exact yMn hx hy
 cases q with
 |true=>
  refine zE func149 ntmps149 fun R=>?_;repeat' (first|refine yAu ?_;refine yAa (yCA rfl zO) ?_|(refine yBb ?_;first|refine yAa (dw rfl rfl rfl) ?_|refine yAa (yB0 rfl rfl zO) ?_)|refine yAo ?_;refine yAa (bH rfl rfl) ?_|refine xqb ?_|refine xsf ?_ ?_|exact xdn ()|intro _)
 |false=>
  refine zE func149 ntmps149 fun R=>?_;repeat' (first|refine yAu ?_;refine yAa (yCA rfl zO) ?_|(refine yBb ?_;first|refine yAa (dw rfl rfl rfl) ?_|refine yAa (yB0 rfl rfl zO) ?_)|refine yAo ?_;refine yAa (bH rfl rfl) ?_|refine xqb ?_|refine xsf ?_ ?_|exact xdn ()|intro _)
theorem yPu {W:World} (hN:NibAt W) (aa:Int) (raw:zB):CtU prog W 149 [.int .u64 aa,strV raw] [] (.tuple #[strV ((yCq aa raw).getD []),.bool (yCq aa raw).isSome]) []:=by
 by_cases h0:aa=0
 ·subst h0;exact (yUj raw).val fun _=>by simp [yCq]
 by_cases h1:raw.length=256
 ·by_cases h2:234<yDD raw
  ·exact (yUk aa raw h0 h1 h2).val fun _=>by simp [yCq,h0,h1,h2]
  ·by_cases hs:yAF aa (yEy raw)=raw
   ·refine (yNT hN aa raw h0 h1 zO false (zZ (by simpa using hs))).val fun _=>?_;have:yCq aa raw=some (yEy raw):=by unfold yCq;rw [if_neg h0,if_neg (by simpa using h1),if_neg h2,if_pos hs]
    rw [this];rfl
   ·refine (yNT hN aa raw h0 h1 zO true (zY hs)).val fun _=>?_;have:yCq aa raw=none:=by unfold yCq;rw [if_neg h0,if_neg (by simpa using h1),if_neg h2,if_neg hs]
    rw [this];rfl
 ·exact (yW5 aa raw h0 h1).val fun _=>by simp [yCq,h0,h1]
section
variable {W:World} {E:Nat→Addr} {p:Nat} {D:Dsk}
def Dsk.roomB (D:Dsk) (at_:Int):Bool:=decide (0≤at_∧at_≤(D.n:Int)-2)
theorem yJ9 (at_:Int) (hn:D.n≤65536):CtU prog W 107 [zPp p,zi at_] [DiskP p D] (.bool (D.roomB at_)) [DiskP p D]:=by
 have c1:CtU prog W 45 [zPp p] [DiskP p D] (zi D.n) [DiskP p D]:=yBM;by_cases h:0≤at_
 ·have hq:decide ((0:Int)≤at_)=true:=zY h;have hr:decide (at_≤(D.n:Int)-2)=D.roomB at_:=by unfold Dsk.roomB;simp [h]
  refine zE func107 ntmps107 fun R=>?_;repeat' (first|refine xqb ?_|refine xsf ?_ ?_|exact xdn ()|intro _)
 ·have hq:decide ((0:Int)≤at_)=false:=zZ h;have hr:D.roomB at_=false:=by unfold Dsk.roomB;simp [h]
  rw [hr];refine zE func107 ntmps107 fun R=>?_;repeat' (first|refine xqb ?_|refine xsf ?_ ?_|exact xdn ()|intro _)
def yDh (raw:zB) (k:Int):Option (Int × zB):=
 if raw.length≠256 then none else if yDX raw 8≠yDX (raw.drop 248) 8 then none else if yDX raw 8<1 then none else if 1099511627776<yDX raw 8 then none else
  if yDX raw 8 % 2≠k then none else (yCq (yDX raw 8) raw).map fun v=>(yDX raw 8,v)
def yA6 (raw:zB) (k:Int):Int:=((yDh raw k).map (·.1)).getD 0
def yCZ (raw:zB) (k:Int):zB:=((yDh raw k).map (·.2)).getD []
theorem yW6 (hE:ErrsOn L8 W E) (hN:NibAt W) (raw:zB) (k:Int):CtU prog W 109 [strV raw,zi k] [] (.tuple #[zi (yA6 raw k),strV (yCZ raw k)]) []:=by
 by_cases h1:raw.length=256;rotate_left
 ·have c1:=yW4 hE raw h1;have ao:yAy E 7≠.nilIface:=by simp [yAy]
  rw [show yA6 raw k=0 by simp [yA6,yDh,h1],show yCZ raw k=[] by simp [yCZ,yDh,h1]];refine zE func109 ntmps109 fun R=>?_;repeat' (first|refine xst ?_|refine xsf ?_ ?_|exact xdn ()|intro _)
 have c1:=yZI (W:=W) raw h1;have co:=yPu hN (yDX raw 8) raw;have hO:yDh raw k=if yDX raw 8≠yDX (raw.drop 248) 8 then none else if yDX raw 8<1 then none else if 1099511627776<yDX raw 8 then none else if yDX raw 8 % 2≠k then none else (yCq (yDX raw 8) raw).map fun v=>(yDX raw 8,v):=by unfold yDh;rw [if_neg (by simpa using h1)]
 unfold yA6 yCZ;rw [hO];clear hO;obtain ⟨a,ha⟩:∃ a,a=yDX raw 8:=⟨_,rfl⟩;obtain ⟨b,hb⟩:∃ b,b=yDX (raw.drop 248) 8:=⟨_,rfl⟩;obtain ⟨o,ho⟩:∃ o,o=yCq (yDX raw 8) raw:=⟨_,rfl⟩;rw [← ho] at co ⊢;rw [← ha] at co ⊢;rw [← ha,← hb] at c1;rw [← hb];clear ha hb ho;by_cases h2:a=b;rotate_left
 ·rw [if_pos h2];refine zE func109 ntmps109 fun R=>?_;repeat' (first|refine xqb ?_|refine xsf ?_ ?_|exact xdn ()|intro _)
 rw [if_neg (by simpa using h2)];by_cases h3:a<1
 ·rw [if_pos h3];have q3:decide (a<1)=true:=zY h3;refine zE func109 ntmps109 fun R=>?_;repeat' (first|refine xqb ?_|refine xsf ?_ ?_|exact xdn ()|intro _)
 rw [if_neg h3];have q3:decide (a<1)=false:=zZ h3;by_cases h4:1099511627776<a
 ·rw [if_pos h4];have q4:decide (1099511627776<a)=true:=zY h4;refine zE func109 ntmps109 fun R=>?_;repeat' (first|refine xqb ?_|refine xsf ?_ ?_|exact xdn ()|intro _)
 rw [if_neg h4];have q4:decide (1099511627776<a)=false:=zZ h4;by_cases h5:a % 2=k;rotate_left
 ·rw [if_pos h5];refine zE func109 ntmps109 fun R=>?_;repeat' (first|refine yAu ?_;refine yAa (yCA rfl zO) ?_|refine yBu ?_;refine yAa (yFX rfl rfl zO) ?_|refine xqb ?_|refine xsf ?_ ?_|exact xdn ()|intro _)
 rw [if_neg (by simpa using h5)];cases o with
 |none=>
  refine zE func109 ntmps109 fun R=>?_;repeat' (first|refine yAu ?_;refine yAa (yCA rfl zO) ?_|refine yBu ?_;refine yAa (yFX rfl rfl zO) ?_|refine xqb ?_|refine xsf ?_ ?_|exact xdn ()|intro _)
 |some v=>
  refine zE func109 ntmps109 fun R=>?_;repeat' (first|refine yAu ?_;refine yAa (yCA rfl zO) ?_|refine yBu ?_;refine yAa (yFX rfl rfl zO) ?_|refine xqb ?_|refine xsf ?_ ?_|exact xdn ()|intro _)
end
def yA3 (D:Dsk) (a:Nat):Nat→Int
 |0=>0
 |k+1=>if yA3 D a k<yA6 (D.rd (a+k)) k then yA6 (D.rd (a+k)) k else yA3 D a k
def yBX (D:Dsk) (a:Nat):Nat→zB
 |0=>[]
 |k+1=>if yA3 D a k<yA6 (D.rd (a+k)) k then yCZ (D.rd (a+k)) k else yBX D a k
def yBA (D:Dsk) (at_:Int):Nat:=if D.roomB at_=false then 6 else if D.off then 12 else if yA3 D at_.toNat 2=0 then 14 else 0
def yBT (D:Dsk) (at_:Int):zB:=if yBA D at_=0 then yBX D at_.toNat 2 else []
def yB6 (D:Dsk) (at_:Int):Int:=if yBA D at_=0 then yA3 D at_.toNat 2 else 0
theorem yFt (raw:zB) (k:Int):0≤yA6 raw k∧yA6 raw k≤1099511627776:=by
 unfold yA6 yDh;split
 ·simp
 split
 ·simp
 split
 ·simp
 split
 ·simp
 split
 ·simp
 cases yCq (yDX raw 8) raw with
 |none=>simp
 |some v=>simp;omega
theorem yHa (D:Dsk) (a k:Nat):0≤yA3 D a k∧yA3 D a k≤1099511627776:=by
 induction k with
 |zero=>simp [yA3]
 |succ k ih=>
  have:=yFt (D.rd (a+k)) k;unfold yA3;split
  ·exact this
  ·exact ih
section
variable {W:World} {E:Nat→Addr} {p:Nat} {D:Dsk}
theorem yUl (hE:ErrsOn L8 W E) (hn:D.n≤65536) (at_:Int) (h:D.roomB at_=false):CtU prog W 52 [zPp p,zi at_] [DiskP p D] (.tuple #[strV [],zi 0,yAy E 6]) [DiskP p D]:=by
 have e6:W.cell? ⟨0,0,none⟩=some (yAy E 6):=hE.at_ 6 zX;have c1:CtU prog W 107 [zPp p,zi at_] [DiskP p D] (.bool false) [DiskP p D]:=(yJ9 at_ hn).val fun _=>by rw [h]
 refine zE func52 ntmps52 fun R=>?_;repeat' (first|refine xqb ?_|refine xsf ?_ ?_|refine xdt zTBT0 ?_|exact xdn ()|apply zN|intro _)
theorem yUm (hE:ErrsOn L8 W E) (hn:D.n≤65536) (at_:Int) (h:D.roomB at_=true) (ho:D.off=true):CtU prog W 52 [zPp p,zi at_] [DiskP p D] (.tuple #[strV [],zi 0,yAy E 12]) [DiskP p D]:=by
 have c1:CtU prog W 107 [zPp p,zi at_] [DiskP p D] (.bool true) [DiskP p D]:=(yJ9 at_ hn).val fun _=>by rw [h]
 have cJ:0≤at_∧at_≤(D.n:Int)-2:=by unfold Dsk.roomB at h;simpa using h
 have c2:CtU prog W 108 [zPp p,zi (at_+0)] [DiskP p D] (.tuple #[strV [],yAy E 12]) [DiskP p D]:=(yMA hE _).val fun _=>by simp [Dsk.readS,Dsk.readE,ho]
 refine zE func52 ntmps52 fun R=>?_;repeat' (first|refine xst ?_|refine xsf ?_ ?_|refine xdt zTBT0 ?_|apply zN|intro _)
 refine yAC (fun _:Unit=>[(0,zPp p),(1,zi at_),(19,zi 0)]) (fun _=>[DiskP p D]++R) (fun _=>0) () xB (xN) (fun _=>?_);repeat' (first|refine xst ?_|refine xsf ?_ ?_|refine xdt zTBT0 ?_|exact xdn ()|apply zN|intro _)
theorem yW7 (hE:ErrsOn L8 W E) (hN:NibAt W) (hn:D.n≤65536) (at_:Int) (h:D.roomB at_=true) (ho:D.off=false) :CtU prog W 52 [zPp p,zi at_] [DiskP p D] (.tuple #[strV (yBT D at_),zi (yB6 D at_),yAy E (yBA D at_)]) [DiskP p D]:=by
 have c1:CtU prog W 107 [zPp p,zi at_] [DiskP p D] (.bool true) [DiskP p D]:=(yJ9 at_ hn).val fun _=>by rw [h]
 have e14:W.cell? ⟨8,0,none⟩=some (yAy E 14):=hE.at_ 14 zX;have cJ:0≤at_∧at_≤(D.n:Int)-2:=by unfold Dsk.roomB at h;simpa using h
 have hE1:yBA D at_=if yA3 D at_.toNat 2=0 then 14 else 0:=by unfold yBA;rw [if_neg (by rw [h];simp),if_neg (by rw [ho];simp)]
 have hvb:=yHa D at_.toNat;have hcr:∀ k:Nat,k<2→CtU prog W 108 [zPp p,zi (at_+(k:Nat))] [DiskP p D] (.tuple #[strV (D.rd (at_.toNat+k)),yAy E 0]) [DiskP p D]:=fun k hk=>(yMA hE _).val fun _=>by
  have hh:D.has (at_+(k:Nat))=true:=by unfold Dsk.has;exact zY zO
  have:(at_+(k:Nat)).toNat=at_.toNat+k:=zO;simp [Dsk.readS,Dsk.readE,ho,hh,this]
 have hV0:yA3 D at_.toNat 0=0:=rfl;have hS0:yBX D at_.toNat 0=[]:=rfl;have hVn:∀ k,yA3 D at_.toNat (k+1)=if yA3 D at_.toNat k<yA6 (D.rd (at_.toNat+k)) k then yA6 (D.rd (at_.toNat+k)) k else yA3 D at_.toNat k:=fun _=>rfl
 have hSn:∀ k,yBX D at_.toNat (k+1)=if yA3 D at_.toNat k<yA6 (D.rd (at_.toNat+k)) k then yCZ (D.rd (at_.toNat+k)) k else yBX D at_.toNat k:=fun _=>rfl
 unfold yBT yB6;rw [hE1];obtain ⟨V,hV⟩:∃ V,V=yA3 D at_.toNat:=⟨_,rfl⟩;obtain ⟨S,hS⟩:∃ S,S=yBX D at_.toNat:=⟨_,rfl⟩;simp only [← hV,← hS] at hV0 hS0 hVn hSn hvb ⊢;clear hV hS hE1;refine zE func52 ntmps52 fun R=>?_;repeat' (first|refine xst ?_|refine xsf ?_ ?_|refine xdt zTBT0 ?_|apply zN|intro _)
 refine yAC (fun i:{k:Nat//k≤2}=>[(0,zPp p),(1,zi at_),(7,zi (V i.1)),(8,strV (S i.1)),(19,zi (i.1:Nat))]) (fun _=>[DiskP p D]++R) (fun i=>2-i.1) ⟨0,zO⟩
  (Subs.cons rfl (Subs.cons rfl (Subs.cons (show _=some (Value.int .i64 (V 0)) from by rw [hV0];rfl) (Subs.cons (show _=some (strV (S 0)) from by rw [hS0];rfl) xB)))) (xN) (fun ⟨k,hk⟩=>?_)
 dsimp only;by_cases hlt:k<2
 ·have cr:=hcr k hlt;have cc:=yW6 hE hN (D.rd (at_.toNat+k)) k;by_cases jx:V k<yA6 (D.rd (at_.toNat+k)) k
  ·have hq:decide (V k<yA6 (D.rd (at_.toNat+k)) k)=true:=zY jx;have h1:=hVn k;have h2:=hSn k;rw [if_pos jx] at h1 h2;repeat' (first|refine xca cr fun _=>?_|refine xqb ?_|refine xsf ?_ ?_|refine xdt zTBT0 ?_|apply zN|intro _)
   refine yAs ⟨k+1,zO⟩ (by show 2-(k+1)<2-k;omega) ?_ (xN);dsimp only;rw [h1,h2];exact xB
  ·have hq:decide (V k<yA6 (D.rd (at_.toNat+k)) k)=false:=zZ jx;have h1:=hVn k;have h2:=hSn k;rw [if_neg jx] at h1 h2;repeat' (first|refine xca cr fun _=>?_|refine xqb ?_|refine xsf ?_ ?_|refine xdt zTBT0 ?_|apply zN|intro _)
   refine yAs ⟨k+1,zO⟩ (by show 2-(k+1)<2-k;omega) ?_ (xN);dsimp only;rw [h1,h2];exact xB
 ·have aW:k=2:=by omega
  subst aW;by_cases hz:V 2=0
  ·rw [if_pos hz,if_neg zO,if_neg zO];repeat' (first|refine xqb ?_|refine xsf ?_ ?_|refine xdt zTBT0 ?_|exact xdn ()|apply zN|intro _)
  ·rw [if_neg hz,if_pos rfl,if_pos rfl];repeat' (first|refine xqb ?_|refine xsf ?_ ?_|refine xdt zTBT0 ?_|exact xdn ()|apply zN|intro _)
theorem yC9 (hE:ErrsOn L8 W E) (hN:NibAt W) (hn:D.n≤65536) (at_:Int) :CtU prog W 52 [zPp p,zi at_] [DiskP p D] (.tuple #[strV (yBT D at_),zi (yB6 D at_),yAy E (yBA D at_)]) [DiskP p D]:=by
 cases h:D.roomB at_ with
 |false=>exact (yUl hE hn at_ h).val fun _=>by simp [yBT,yB6,yBA,h]
 |true=>
  cases ho:D.off with
  |true=>exact (yUm hE hn at_ h ho).val fun _=>by simp [yBT,yB6,yBA,h,ho]
  |false=>exact yW7 hE hN hn at_ h ho
end
def yCQ (D:Dsk) (at_ v:Int):Bool:=D.roomB at_ && decide (1≤v) && decide (v≤1099511627776)
def yDq (D:Dsk) (at_ v:Int) (s:zB):Dsk:=D.writeD (at_+v % 2) (yAF v s)
def yB1 (D:Dsk) (at_ v:Int) (s:zB):Nat:=
 if yCQ D at_ v=false then 6 else if 234<s.length then 3 else if D.writeE (at_+v % 2) (yAF v s)≠0 then D.writeE (at_+v % 2) (yAF v s) else (yDq D at_ v s).flushE
def yBB (D:Dsk) (at_ v:Int) (s:zB):Dsk:=
 if yCQ D at_ v=false then D else if 234<s.length then D else if D.writeE (at_+v % 2) (yAF v s)≠0 then yDq D at_ v s else (yDq D at_ v s).flushD
theorem yDE (D:Dsk) (i:Int) (s:zB):(D.writeD i s).und.length≤D.und.length+1:=by
 unfold Dsk.writeD;split
 ·omega
 split
 ·split
  ·dsimp only;split
   ·rw [Dsk.gone_und];simp
   ·show (Dsk.gone _).und.length≤_;rw [Dsk.gone_und];simp
  ·omega
 ·omega
theorem yDf {E:Nat→Addr} {k:Nat} (h:k≠0):∃ a,yAy E k=.iface 303 (.pointer (some a)):=⟨E k,by unfold yAy;rw [if_neg h]⟩
section
variable {W:World} {E:Nat→Addr} {p:Nat} {D:Dsk}
theorem yR5 (hE:ErrsOn L8 W E) (hn:D.n≤65536) (at_ v:Int) (s:zB) (h:yCQ D at_ v=false):CtU prog W 104 [zPp p,zi at_,zi v,strV s] [DiskP p D] (yAy E 6) [DiskP p D]:=by
 have e6:W.cell? ⟨0,0,none⟩=some (yAy E 6):=hE.at_ 6 zX;have c1:=yJ9 (W:=W) (p:=p) at_ hn;cases hr:D.roomB at_ with
 |false=>
  rw [hr] at c1;refine zE func104 ntmps104 fun R=>?_;repeat' (first|refine xqb ?_|refine xsf ?_ ?_|exact xdn ()|intro _)
 |true=>
  rw [hr] at c1;by_cases hv:v<1
  ·have q1:decide (v<1)=true:=zY hv;refine zE func104 ntmps104 fun R=>?_;repeat' (first|refine xqb ?_|refine xsf ?_ ?_|exact xdn ()|intro _)
  ·have q1:decide (v<1)=false:=zZ hv;have q2:decide (1099511627776<v)=true:=by refine zY ?_;unfold yCQ at h;rw [hr,zY (show 1≤v by omega)] at h;simp at h;omega
   refine zE func104 ntmps104 fun R=>?_;repeat' (first|refine xqb ?_|refine xsf ?_ ?_|exact xdn ()|intro _)
theorem yR6 (hE:ErrsOn L8 W E) (hN:NibAt W) (hn:D.n≤65536) (aS:D.und.length<1073741823) (at_ v:Int) (s:zB) (h:yCQ D at_ v=true) :CtU prog W 104 [zPp p,zi at_,zi v,strV s] [DiskP p D] (yAy E (yB1 D at_ v s)) [DiskP p (yBB D at_ v s)]:=by
 have hm:D.roomB at_=true∧1≤v∧v≤1099511627776:=by unfold yCQ at h;simp at h;exact ⟨h.1.1,h.1.2,h.2⟩
 have cJ:0≤at_∧at_≤(D.n:Int)-2:=by have:=hm.1;unfold Dsk.roomB at this;simpa using this
 have c1:=yJ9 (W:=W) (p:=p) at_ hn;rw [hm.1] at c1;have q1:decide (v<1)=false:=zZ zO;have q2:decide (1099511627776<v)=false:=zZ zO;have hw:IntKind.u64.wrap v=v:=by show v % 18446744073709551616=v;omega
 have aR:v≠0:=zO;unfold yB1 yBB;have hb:¬ (yCQ D at_ v=false):=by rw [h];simp
 rw [if_neg hb,if_neg hb];by_cases hl:234<s.length
 ·rw [if_pos hl,if_pos hl];have c2:=yUi hE v s aR hl;refine zE func104 ntmps104 fun R=>?_;repeat' (first|refine xqb ?_|refine xsf ?_ ?_|exact xdn ()|intro _)
 rw [if_neg hl,if_neg hl];have c2:=yMJ hN v s aR zO;have hrb:at_+v % 2≤9223372036854775807∧-9223372036854775808≤at_+v % 2:=zO;have c3:CtU prog W 124 [zPp p,zi (at_+v % 2),strV (yAF v s)] [DiskP p D] (yAy E (D.writeE (at_+v % 2) (yAF v s))) [DiskP p (yDq D at_ v s)]:=yMB hE _ _ zO;obtain ⟨D1,aL⟩:∃ D1,D1=yDq D at_ v s:=⟨_,rfl⟩;have iN:D1.und.length<1073741824:=by rw [aL];unfold yDq;have:=yDE D (at_+v % 2) (yAF v s);omega
 obtain ⟨e,he⟩:∃ e,e=D.writeE (at_+v % 2) (yAF v s):=⟨_,rfl⟩;rw [← aL,← he] at c3 ⊢;by_cases hz:e=0
 ·subst hz;have cS:¬ ((0:Nat)≠0):=zW;rw [if_neg cS,if_neg cS];have c4:CtU prog W 125 [zPp p] [DiskP p D1] (yAy E D1.flushE) [DiskP p D1.flushD]:=yMC hE iN;have c3':CtU prog W 124 [zPp p,zi (at_+v % 2),strV (yAF v s)] [DiskP p D] .nilIface [DiskP p D1]:=c3;refine zE func104 ntmps104 fun R=>?_;repeat' (first|refine yBu ?_;refine yAa (yFX rfl rfl zO) ?_|refine xqb ?_|refine xsf ?_ ?_|exact xdn ()|intro _)
 ·rw [if_pos hz,if_pos hz];obtain ⟨ea,bT⟩:=yDf (E:=E) hz;rw [bT] at c3 ⊢;refine zE func104 ntmps104 fun R=>?_;repeat' (first|refine yBu ?_;refine yAa (yFX rfl rfl zO) ?_|refine xqb ?_|refine xsf ?_ ?_|exact xdn ()|intro _)
theorem yNU (hE:ErrsOn L8 W E) (hN:NibAt W) (hn:D.n≤65536) (aS:D.und.length<1073741823) (at_ v:Int) (s:zB) :CtU prog W 104 [zPp p,zi at_,zi v,strV s] [DiskP p D] (yAy E (yB1 D at_ v s)) [DiskP p (yBB D at_ v s)]:=by
 cases h:yCQ D at_ v with
 |true=>exact yR6 hE hN hn aS at_ v s h
 |false=>
  have e1:yB1 D at_ v s=6:=by unfold yB1;rw [if_pos h]
  have e2:yBB D at_ v s=D:=by unfold yBB;rw [if_pos h]
  rw [e1,e2];exact yR5 hE hn at_ v s h
end
theorem yBC (n:Nat) (h:n<2 ^ 64):IntKind.u64.wrap (n:Int)=(n:Int):=by have e:IntKind.u64.wrap (n:Int)=(n:Int) % 18446744073709551616:=rfl;rw [e];omega
theorem xDl (x y:Nat) (hx:x<2 ^ 64) (hy:y<2 ^ 64):bits .or .u64 (x:Int) (y:Int)=((x ||| y:Nat):Int):=by
 have e:bits .or .u64 (x:Int) (y:Int)=IntKind.u64.wrap ((BitVec.ofInt 64 (x:Int) ||| BitVec.ofInt 64 (y:Int)).toNat:Int):=rfl;have b1:(BitVec.ofInt 64 (x:Int)).toNat=x:=by rw [BitVec.toNat_ofInt];omega
 have b2:(BitVec.ofInt 64 (y:Int)).toNat=y:=by rw [BitVec.toNat_ofInt];omega
 rw [e,BitVec.toNat_or,b1,b2];exact yBC _ (Nat.or_lt_two_pow hx hy)
theorem yFu (x i:Nat) (c:UInt8) (hi:i<8) (hx:x<2 ^ (8*i)):yEq (x:Int) i c=((x+c.toNat*2 ^ (8*i):Nat):Int):=by
 have hc:=zLy c;have hm:min (8*(i:Int)).toNat IntKind.u64.bits=8*i:=by show min (8*(i:Int)).toNat 64=8*i;omega
 have hp:c.toNat*2 ^ (8*i)<2 ^ (8*i+8):=by rw [Nat.pow_add,Nat.mul_comm];exact Nat.mul_lt_mul_of_pos_left zO (Nat.two_pow_pos _)
 have iO:(2:Nat) ^ (8*i+8)≤2 ^ 64:=Nat.pow_le_pow_right zO zO;have cH:(2:Nat) ^ (8*i)≤2 ^ 64:=Nat.pow_le_pow_right zO zO;unfold yEq;rw [hm,yBC c.toNat zO];have e2:((c.toNat:Int)*2 ^ (8*i))=((c.toNat*2 ^ (8*i):Nat):Int):=zW;rw [e2,yBC _ zO,xDl _ _ zO zO];congr 1;rw [Nat.or_comm,Nat.mul_comm,← Nat.two_pow_add_eq_or_of_lt hx,Nat.add_comm]
theorem yGB (v i:Nat) (hi:i<8):(yDR (v:Int) i).toNat=v / 2 ^ (8*i) % 256:=by
 have hm:min (8*(i:Int)).toNat IntKind.u64.bits=8*i:=by show min (8*(i:Int)).toNat 64=8*i;omega
 unfold yDR yNQ;rw [hm];have e:(v:Int).fdiv (2 ^ (8*i))=((v / 2 ^ (8*i):Nat):Int):=by rw [Int.fdiv_eq_ediv_of_nonneg _ (by exact Int.pow_nonneg zX)];simp
 rw [e];have e2:∀ z:Nat,IntKind.u8.wrap (z:Int)=((z % 256:Nat):Int):=fun z=>by have:IntKind.u8.wrap (z:Int)=(z:Int) % 256:=rfl;rw [this];omega
 rw [e2,zLe,UInt8.toNat_ofNat'];omega
theorem yMK (l:zB) (v:Nat) (n:Nat) (hn:n≤8) (h:∀ i,i<n→l.getD i 0=yDR (v:Int) i):yDX l n=((v % 2 ^ (8*n):Nat):Int):=by
 induction n with
 |zero=>simp [yDX,Nat.mod_one]
 |succ n ih=>
  show yEq (yDX l n) n (l.getD n 0)=_;rw [ih zO (fun i hi=>h i zO),h n zO,yFu _ _ _ zO (Nat.mod_lt _ (Nat.two_pow_pos _)),yGB _ _ zO];congr 1;rw [show 8*(n+1)=8*n+8 by omega,Nat.pow_add,Nat.mod_mul,Nat.mul_comm (2 ^ (8*n)) _]
theorem yML (x:Int) (n i:Nat) (hi:i<n):(yE0 x n).getD i 0=yDR x i:=by simp [yE0,List.getD,hi]
theorem yGC (l:zB) (o:Nat) (b:zB) (i:Nat) (h:o+b.length≤l.length) (h1:o≤i) (h2:i<o+b.length):(lay l o b).getD i 0=b.getD (i-o) 0:=by unfold lay;simp only [List.getD];rw [zLn (by simp;omega),zLg,Nat.min_eq_left zO,zLp zO]
theorem yEr (l:zB) (o:Nat) (b:zB) (i:Nat) (h:o+b.length≤l.length) (h1:i<o∨o+b.length≤i):(lay l o b).getD i 0=l.getD i 0:=by
 unfold lay;simp only [List.getD];rcases h1 with h1|h1
 ·rw [zLp (by simp;omega),List.getElem?_take_of_lt h1]
 ·rw [zLn (by simp;omega),zLg,Nat.min_eq_left zO,zLn zO,zLC];congr 2;omega
theorem yHQ (l:zB) (o i:Nat):(l.drop o).getD i 0=l.getD (o+i) 0:=by simp [List.getD]
section
variable (v:Nat) (s:zB) (hl:s.length≤234)
include hl
theorem yUn (i:Nat) (h1:248≤i) (h2:i<256):(yAF v s).getD i 0=yDR (v:Int) (i-248):=by unfold yAF;rw [yGC _ _ _ _ (by rw [yAT,yDp _ _ hl];omega) h1 (by rw [yAT];omega),yML _ _ _ zO]
theorem yMM (i:Nat) (h:i<244):(yAF v s).getD i 0=(yDS v s).getD i 0:=by unfold yAF;rw [yEr _ _ _ _ (by rw [yAT,yDp _ _ hl];omega) (.inl zO)];unfold yHP;rw [yEr _ _ _ _ (by rw [yAT,yD4 _ _ hl];omega) (.inl zO)]
theorem yUo (i:Nat) (h:i<8):(yAF v s).getD i 0=yDR (v:Int) i:=by rw [yMM v s hl i zO];unfold yDS;rw [yEr _ _ _ _ (by rw [yCU];omega) (.inl zO)];unfold yG9;rw [yEr _ _ _ _ (by rw [yAT,yDo];omega) (.inl zO)];unfold yJe;rw [yGC _ _ _ _ (by rw [yAT,zLB];omega) zO (by rw [yAT];omega),Nat.sub_zero,yML _ _ _ h]
theorem yUp (i:Nat) (h:i<2):(yAF v s).getD (8+i) 0=yDR ((s.length:Nat):Int) i:=by rw [yMM v s hl _ zO];unfold yDS;rw [yEr _ _ _ _ (by rw [yCU];omega) (.inl zO)];unfold yG9;rw [yBC s.length zO,yGC _ _ _ _ (by rw [yAT,yDo];omega) zO (by rw [yAT];omega),yML _ _ _ zO];congr 1;omega
theorem yUq (i:Nat) (h:i<s.length):(yAF v s).getD (10+i) 0=s.getD i 0:=by rw [yMM v s hl _ zO];unfold yDS;rw [yGC _ _ _ _ (by rw [yCU];omega) zO zO];congr 1;omega
theorem yUr (hv:v<2 ^ 64):yDX (yAF v s) 8=(v:Int):=by rw [yMK _ v 8 zO (fun i hi=>yUo v s hl i hi),Nat.mod_eq_of_lt zO]
theorem yNV (hv:v<2 ^ 64):yDX ((yAF v s).drop 248) 8=(v:Int):=by rw [yMK _ v 8 zO (fun i hi=>by rw [yHQ,yUn v s hl _ zO zO,Nat.add_sub_cancel_left]),Nat.mod_eq_of_lt zO]
theorem yLH:yDD (yAF v s)=s.length:=by have h:=yMK ((yAF (v:Int) s).drop 8) s.length 2 zO (fun i hi=>by rw [yHQ];exact yUp v s hl i hi);have e:s.length % 2 ^ (8*2)=s.length:=Nat.mod_eq_of_lt (by show s.length<65536;omega);rw [e] at h;unfold yDD;rw [h,zLe]
theorem yR7:yEy (yAF v s)=s:=by
 have hL:=yBk (v:Int) s hl;unfold yEy;rw [yLH v s hl];apply List.ext_getElem
 ·rw [zLf,zLg];omega
 ·intro i h1 h2;have h3:=yUq v s hl i h2;simp only [List.getElem_drop,List.getElem_take];rw [List.getD,zLb zO,List.getD,zLb h2] at h3;simpa using h3
theorem yNW (aR:v≠0):yCq (v:Int) (yAF v s)=some s:=by unfold yCq;rw [if_neg zO,if_neg (by have:=yBk (v:Int) s hl;simpa using this),if_neg (by rw [yLH v s hl];omega),yR7 v s hl,if_pos rfl]
theorem yR8 (aR:1≤v) (eA:v≤1099511627776):yDh (yAF v s) ((v:Int) % 2)=some ((v:Int),s):=by unfold yDh;rw [yUr v s hl zO,yNV v s hl zO,yNW v s hl zO,if_neg (by have:=yBk (v:Int) s hl;simpa using this),if_neg zW,if_neg zO,if_neg zO,if_neg zW];rfl
end
theorem yNX {P:Program} {w:World} {t:TypeId} {u1:TypeId} {x1:Value} {v2:Value} {b:Bool} (h:(binOp .eql t v2 (.iface u1 x1)).run P w=.ok (.bool b) w):(Op.equal t v2 (.iface u1 x1)).run P w=.ok b w:=by
 have e:binOp .eql t v2 (.iface u1 x1)=(do pure (.bool (← Op.equal t v2 (.iface u1 x1)))):=by cases v2 <;> rfl
 rw [e] at h;simp only [Sem.run_bind] at h;cases hq:(Op.equal t v2 (.iface u1 x1)).run P w with
 |ok c w'=>
  rw [hq] at h;simp only [Result.andThen_ok,Sem.run_pure,Result.ok.injEq,Value.bool.injEq] at h;rw [h.1,h.2]
 |_=>rw [hq] at h;simp [Result.andThen] at h
section
variable {W:World} {n:Nat} {E:Env} {H:List SP} {x y:Operand} {u:TypeId} {F:Nat→Addr}
theorem yZJ {S:List Nat} (hE:ErrsOn S W F) {w:World} (bl:Below W.heap.size W w) (a b:Nat) (ha:a=0∨a ∈ S) (hb:b ∈ S):(binOp .eql 27 (yAy F a) (yAy F b)).run prog w=.ok (.bool (decide (a=b))) w:=by
 have hw:=hE.later bl;have bU:=hE.pos b hb;rw [yD3 F b bU];by_cases h0:a=0
 ·subst h0;rw [zZ zO];exact run_eql_iface_nil_left w _ _ underlying27
 ·rw [yD3 F a zO];by_cases aJ:a=b
  ·subst aJ;rw [zY rfl];exact yQB w _
  ·rw [zZ aJ];have ha:a ∈ S:=ha.resolve_left h0;obtain ⟨ca,ta,h1⟩:=hw.obj a ha;obtain ⟨cb,tb,h2⟩:=hw.obj b hb;exact yNI w _ _ (fun e=>aJ (hw.inj _ _ ha hb e)) h1 h2
theorem yUs (op:BinOp) (t:TypeId) (a b:Nat) (hb:1≤b) (w:World):(eqGuard op t x y (yAy F a) (yAy F b)).run prog w=.ok () w:=by
 rw [yD3 F b hb];by_cases h0:a=0
 ·subst h0;cases op <;> rfl
 ·rw [yD3 F a zO];cases op <;> rfl
theorem yUt {a b:Nat} {q:Bool} {S:List Nat} (hE:ErrsOn S W F) (hx:Env.ev E x=some (yAy F a)) (hy:Env.ev E y=some (yAy F b)) (ha:a=0∨a ∈ S) (hb:b ∈ S) (hq:decide (a≠b)=q):Ev prog W n E H (.binOp .neq 27 x y u) (.bool q):=
 Ev.mk fun o ho ac w p s=>by
  subst hq;have h1:=yUs (x:=x) (y:=y) (F:=F) .neq 27 a b (hE.pos b hb) w;have h2:=yZJ hE s.below a b ha hb;have h3:(binOp .neq 27 (yAy F a) (yAy F b)).run prog w=.ok (.bool (decide (a≠b))) w:=by
   rw [yD3 F b (hE.pos b hb)] at h2 ⊢;have h4:=yNX h2;have e:binOp .neq 27 (yAy F a) (.iface 303 (.pointer (some (F b))))=(do pure (.bool (!(← Op.equal 27 (yAy F a) (.iface 303 (.pointer (some (F b)))))))):=by cases yAy F a <;> rfl
   rw [e,Sem.run_bind,h4];simp
  simp only [execOp,ho,p.ev hx,p.ev hy,Sem.run_bind,h1,h3,Result.andThen_ok,Sem.run_pure]
end
theorem yNY (at_ : Nat) {laid : List (String × DataW Unit)} {W : World} (hp : (laid.all fun x => x.2.handleName?.isNone) = true) (hi : laid[at_]? = some ("remit/checks.nibbles", Lib.tabData .u32 nibT)) (h : laidMetH prog laid W) : NibAt W := by
 rw [MakeChecks.laidMetH_plain _ _ _ hp] at h;obtain ⟨ps,hL,hnd,_⟩:=h;obtain ⟨pl,h1,_⟩:=yHk hL hnd;obtain ⟨g,t,cs,fuel,a1,a2,a3,a4,_,_⟩:=h1 _ _ _ hi;obtain rfl := Option.some.inj ((show prog.globalNamed "remit/checks.nibbles" = some 37 by kernel_rfl).symm.trans a1)
 obtain rfl:=Option.some.inj ((show (prog.globals[37]?).map (·.type)=some 298 by kernel_rfl).symm.trans a2);have dx:=Lib.cells_of_tab underlying298 underlying239 zK zK a4;intro i js;have:=World.var?_cell a1 a3 i;rw [this];have e:cs[i]? = cs.toList[i]?:=zW;rw [e,dx];have hn:i<nibT.length:=js;simp [List.getD,hn]
def yCI (n:Int):Int:=234*min (max n 0) 65536
def yCm (b:Int):Int:=if b≤0 then 0 else (b-1) / 234+1
section
variable {W:World} {E:Nat→Addr} {p:Nat} {D:Dsk}
theorem yMN (n:Int):CtU prog W 83 [zi n] [] (zi (yCI n)) []:=by have hb:0≤min (max n 0) 65536∧min (max n 0) 65536≤65536:=zO;refine zE func83 ntmps83 fun R=>?_;repeat' (first|refine yBN ?_;refine yAa (yAX (r:=yCI n) rfl rfl rfl (by unfold yCI;omega)) ?_|refine xst ?_|refine xsf ?_ ?_|exact xdn ()|intro _)
theorem yNZ (n:Int):CtU prog W 67 [zi n] [] (zi (yCI n)) []:=by have hb:0≤min (max n 0) 65536∧min (max n 0) 65536≤65536:=zO;refine zE func67 ntmps67 fun R=>?_;repeat' (first|refine yBN ?_;refine yAa (yAX (r:=yCI n) rfl rfl rfl (by unfold yCI;omega)) ?_|refine xst ?_|refine xsf ?_ ?_|exact xdn ()|intro _)
theorem yPv (b:Int) (hb:b≤9223372036854775807):CtU prog W 148 [zi b] [] (zi (yCm b)) []:=by
 by_cases h:b≤0
 ·have q:decide (b≤0)=true:=zY h;rw [show yCm b=0 from if_pos h];refine zE func148 ntmps148 fun R=>?_;repeat' (first|refine xqb ?_|refine xsf ?_ ?_|exact xdn ()|intro _)
 ·have q:decide (b≤0)=false:=zZ h;rw [show yCm b=(b-1) / 234+1 from if_neg h];refine zE func148 ntmps148 fun R=>?_;repeat' (first|refine xqb ?_|refine xsf ?_ ?_|exact xdn ()|intro _)
end
def Dsk.mayB (D:Dsk) (at_ n:Int):Bool:=decide (0≤at_∧0≤n∧at_≤D.n∧n≤D.n-at_)
section
variable {W:World} {E:Nat→Addr} {p:Nat} {D:Dsk}
theorem yYK (at_ n:Int) (hn:D.n≤65536):CtU prog W 147 [zPp p,zi at_,zi n] [DiskP p D] (.bool (D.mayB at_ n)) [DiskP p D]:=by
 have c1:CtU prog W 45 [zPp p] [DiskP p D] (zi D.n) [DiskP p D]:=yBM;by_cases h1:0≤at_
 ·by_cases h2:0≤n
  ·by_cases h3:at_≤D.n
   ·have hr:decide (n≤(D.n:Int)-at_)=D.mayB at_ n:=by unfold Dsk.mayB;simp [h1,h2,h3]
    have q1:decide (0≤at_)=true:=zY h1;have q2:decide (0≤n)=true:=zY h2;have q3:decide (at_≤(D.n:Int))=true:=zY h3;refine zE func147 ntmps147 fun R=>?_;repeat' (first|refine xqb ?_|refine xsf ?_ ?_|exact xdn ()|intro _)
   ·have hr:D.mayB at_ n=false:=by unfold Dsk.mayB;simp [h3]
    have q1:decide (0≤at_)=true:=zY h1;have q2:decide (0≤n)=true:=zY h2;have q3:decide (at_≤(D.n:Int))=false:=zZ h3;rw [hr];refine zE func147 ntmps147 fun R=>?_;repeat' (first|refine xqb ?_|refine xsf ?_ ?_|exact xdn ()|intro _)
  ·have hr:D.mayB at_ n=false:=by unfold Dsk.mayB;simp [h2]
   have q1:decide (0≤at_)=true:=zY h1;have q2:decide (0≤n)=false:=zZ h2;rw [hr];refine zE func147 ntmps147 fun R=>?_;repeat' (first|refine xqb ?_|refine xsf ?_ ?_|exact xdn ()|intro _)
 ·have hr:D.mayB at_ n=false:=by unfold Dsk.mayB;simp [h1]
  have q1:decide (0≤at_)=false:=zZ h1;rw [hr];refine zE func147 ntmps147 fun R=>?_;repeat' (first|refine xqb ?_|refine xsf ?_ ?_|exact xdn ()|intro _)
end
end Go.Proofs.YtoipmnikdiogcaaGreatDoor
