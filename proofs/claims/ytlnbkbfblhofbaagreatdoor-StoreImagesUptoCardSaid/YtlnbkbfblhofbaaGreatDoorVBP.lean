/-
  Slo, Slo2, Slo3, Rt.
-/
import Derived.Test.YtlnbkbfblhofbaaGreatDoorVBL
set_option maxRecDepth 100000
set_option maxHeartbeats 64000000
namespace Go.Proofs.YtlnbkbfblhofbaaGreatDoor
open Go Go.RowKit
open Go.Proofs.Tryz
abbrev yDp:Pl:=(.op 0 (.op 1 (.op 2 (.op 3 .nil))))
section
variable {W:World} {E:Nat→Addr} {p:Nat} {D:Dsk}
def Dsk.roomB (D:Dsk) (at_:Int):Bool:=decide (0≤at_∧at_≤(D.n:Int)-2)
theorem yI0 (at_:Int) (hn:D.n≤65536):CtU prog W 56 [zPp p,.int .i64 at_] [DiskP p D] (.bool (D.roomB at_)) [DiskP p D]:=by
 have c1:CtU prog W 25 [zPp p] [DiskP p D] (.int .i64 D.n) [DiskP p D]:=yBs
 by_cases h:0≤at_
 ·have hq:decide ((0:Int)≤at_)=true:=zY h
  have hr:decide (at_≤(D.n:Int)-2)=D.roomB at_:=by unfold Dsk.roomB;simp [h]
  refine Ct.enter func56 rfl ntmps56 zW (fun R=>?_)
  repeat' (first|refine yAb ?_;refine xca c1 fun _=>?_|refine yAa (yAS rfl rfl hr) ?_|refine yAa (yAm rfl rfl hq) ?_|refine xst ?_|refine xsa ?_;intro _|refine xsb ?_ ?_<;>intro _<;>try omega|refine xsc ?_|exact xdn ()|fail)
 ·have hq:decide ((0:Int)≤at_)=false:=zZ h
  have hr:D.roomB at_=false:=by unfold Dsk.roomB;simp [h]
  rw [hr]
  refine Ct.enter func56 rfl ntmps56 zW (fun R=>?_)
  repeat' (first|refine yAa (yAm rfl rfl hq) ?_|refine xst ?_|refine xsa ?_;intro _|refine xsb ?_ ?_<;>intro _<;>try omega|refine xsc ?_|exact xdn ()|fail)
def yCA (raw:List UInt8) (k:Int):Option (Int × List UInt8):=
 if raw.length≠256 then none else if yCt raw 8≠yCt (raw.drop 248) 8 then none else if yCt raw 8<1 then none else if 1099511627776<yCt raw 8 then none else
  if yCt raw 8 % 2≠k then none else (yBU (yCt raw 8) raw).map fun v=>(yCt raw 8,v)
def yAM (raw:List UInt8) (k:Int):Int:=((yCA raw k).map (·.1)).getD 0
def yCu (raw:List UInt8) (k:Int):List UInt8:=((yCA raw k).map (·.2)).getD []
theorem yUV (hE:ErrsOn L8 W E) (hN:NibAt W) (raw:List UInt8) (k:Int):CtU prog W 58 [strV raw,.int .i64 k] [] (.tuple #[.int .i64 (yAM raw k),strV (yCu raw k)]) []:=by
 by_cases h1:raw.length=256
 rotate_left
 ·have c1:=yUT hE raw h1
  have hne:yAr E 7≠.nilIface:=by simp [yAr]
  rw [show yAM raw k=0 by simp [yAM,yCA,h1],show yCu raw k=[] by simp [yCu,yCA,h1]]
  refine Ct.enter func58 rfl ntmps58 zW (fun R=>?_)
  repeat' (first|refine yAb ?_;refine xca c1 fun _=>?_|refine xst ?_|refine xsa ?_;intro _|refine xsb ?_ ?_<;>intro _<;>try omega|refine xsc ?_|exact xdn ()|fail)
 have c1:=yXt (W:=W) raw h1
 have co:=yNS hN (yCt raw 8) raw
 have hO:yCA raw k=if yCt raw 8≠yCt (raw.drop 248) 8 then none else if yCt raw 8<1 then none else if 1099511627776<yCt raw 8 then none else if yCt raw 8 % 2≠k then none else (yBU (yCt raw 8) raw).map fun v=>(yCt raw 8,v):=by
  unfold yCA;rw [if_neg (by simpa using h1)]
 unfold yAM yCu
 rw [hO]
 clear hO
 obtain ⟨a,ha⟩:∃ a,a=yCt raw 8:=⟨_,rfl⟩
 obtain ⟨b,hb⟩:∃ b,b=yCt (raw.drop 248) 8:=⟨_,rfl⟩
 obtain ⟨o,ho⟩:∃ o,o=yBU (yCt raw 8) raw:=⟨_,rfl⟩
 rw [← ho] at co ⊢
 rw [← ha] at co ⊢
 rw [← ha,← hb] at c1
 rw [← hb]
 clear ha hb ho
 by_cases h2:a=b
 rotate_left
 ·rw [if_pos h2]
  refine Ct.enter func58 rfl ntmps58 zW (fun R=>?_)
  repeat' (first|refine yAb ?_;refine xca c1 fun _=>?_|refine yAa (yA0 rfl rfl h2) ?_|refine xst ?_|refine xsa ?_;intro _|refine xsb ?_ ?_<;>intro _<;>try omega|refine xsc ?_|exact xdn ()|fail)
 rw [if_neg (by simpa using h2)]
 by_cases h3:a<1
 ·rw [if_pos h3]
  have q3:decide (a<1)=true:=zY h3
  refine Ct.enter func58 rfl ntmps58 zW (fun R=>?_)
  repeat' (first|refine yAb ?_;refine xca c1 fun _=>?_|refine yAa (yAv rfl rfl h2) ?_|refine yAa (yAc rfl rfl q3) ?_|refine xst ?_|refine xsa ?_;intro _|refine xsb ?_ ?_<;>intro _<;>try omega|refine xsc ?_|exact xdn ()|fail)
 rw [if_neg h3]
 have q3:decide (a<1)=false:=zZ h3
 by_cases h4:1099511627776<a
 ·rw [if_pos h4]
  have q4:decide (1099511627776<a)=true:=zY h4
  refine Ct.enter func58 rfl ntmps58 zW (fun R=>?_)
  repeat' (first|refine yAb ?_;refine xca c1 fun _=>?_|refine yAa (yAv rfl rfl h2) ?_|refine yAa (yAc rfl rfl q3) ?_|refine yAa (yAe rfl rfl q4) ?_|refine xst ?_|refine xsa ?_;intro _|refine xsb ?_ ?_<;>intro _<;>try omega|refine xsc ?_|exact xdn ()|fail)
 rw [if_neg h4]
 have q4:decide (1099511627776<a)=false:=zZ h4
 by_cases h5:a % 2=k
 rotate_left
 ·rw [if_pos h5]
  refine Ct.enter func58 rfl ntmps58 zW (fun R=>?_)
  repeat' (first|refine yAb ?_;refine xca c1 fun _=>?_|refine yAa (yB6 rfl zO) ?_|refine yAa (yE6 rfl rfl zO) ?_|refine yAa (yA0 rfl rfl h5) ?_|refine yAa (yAv rfl rfl h2) ?_|refine yAa (yAc rfl rfl q3) ?_|refine yAa (yAe rfl rfl q4) ?_|refine xst ?_|refine xsa ?_;intro _|refine xsb ?_ ?_<;>intro _<;>try omega|refine xsc ?_|exact xdn ()|fail)
 rw [if_neg (by simpa using h5)]
 cases o with
 |none=>
  refine Ct.enter func58 rfl ntmps58 zW (fun R=>?_)
  repeat' (first|(refine yAb ?_;first|refine xca co fun _=>?_|refine xca c1 fun _=>?_)|refine yAa (yB6 rfl zO) ?_|refine yAa (yE6 rfl rfl zO) ?_|refine yAa (yAv rfl rfl h5) ?_|refine yAa (yAv rfl rfl h2) ?_|refine yAa (yAc rfl rfl q3) ?_|refine yAa (yAe rfl rfl q4) ?_|refine xst ?_|refine xsa ?_;intro _|refine xsb ?_ ?_<;>intro _<;>try omega|refine xsc ?_|exact xdn ()|fail)
 |some v=>
  refine Ct.enter func58 rfl ntmps58 zW (fun R=>?_)
  repeat' (first|(refine yAb ?_;first|refine xca co fun _=>?_|refine xca c1 fun _=>?_)|refine yAa (yB6 rfl zO) ?_|refine yAa (yE6 rfl rfl zO) ?_|refine yAa (yAv rfl rfl h5) ?_|refine yAa (yAv rfl rfl h2) ?_|refine yAa (yAc rfl rfl q3) ?_|refine yAa (yAe rfl rfl q4) ?_|refine xst ?_|refine xsa ?_;intro _|refine xsb ?_ ?_<;>intro _<;>try omega|refine xsc ?_|exact xdn ()|fail)
end
def yAL (D:Dsk) (a:Nat):Nat→Int
 |0=>0
 |k+1=>if yAL D a k<yAM (D.rd (a+k)) k then yAM (D.rd (a+k)) k else yAL D a k
def yBv (D:Dsk) (a:Nat):Nat→List UInt8
 |0=>[]
 |k+1=>if yAL D a k<yAM (D.rd (a+k)) k then yCu (D.rd (a+k)) k else yBv D a k
def yA9 (D:Dsk) (at_:Int):Nat:=if D.roomB at_=false then 6 else if D.off then 12 else if yAL D at_.toNat 2=0 then 14 else 0
def yBt (D:Dsk) (at_:Int):List UInt8:=if yA9 D at_=0 then yBv D at_.toNat 2 else []
def yBC (D:Dsk) (at_:Int):Int:=if yA9 D at_=0 then yAL D at_.toNat 2 else 0
theorem yEN (raw:List UInt8) (k:Int):0≤yAM raw k∧yAM raw k≤1099511627776:=by
 unfold yAM yCA
 split
 ·simp
 split
 ·simp
 split
 ·simp
 split
 ·simp
 split
 ·simp
 cases yBU (yCt raw 8) raw with
 |none=>simp
 |some v=>simp;omega
theorem yGa (D:Dsk) (a k:Nat):0≤yAL D a k∧yAL D a k≤1099511627776:=by
 induction k with
 |zero=>simp [yAL]
 |succ k ih=>
  have:=yEN (D.rd (a+k)) k
  unfold yAL
  split
  ·exact this
  ·exact ih
section
variable {W:World} {E:Nat→Addr} {p:Nat} {D:Dsk}
theorem ySk (hE:ErrsOn L8 W E) (hn:D.n≤65536) (at_:Int) (h:D.roomB at_=false):CtU prog W 27 [zPp p,.int .i64 at_] [DiskP p D] (.tuple #[strV [],.int .i64 0,yAr E 6]) [DiskP p D]:=by
 have e6:W.cell? ⟨5,0,none⟩=some (yAr E 6):=hE.at_ 6 zX
 have c1:CtU prog W 56 [zPp p,.int .i64 at_] [DiskP p D] (.bool false) [DiskP p D]:=(yI0 at_ hn).val fun _=>by rw [h]
 refine Ct.enter func27 rfl ntmps27 zW (fun R=>?_)
 repeat' (first|refine yAb ?_;refine xca c1 fun _=>?_|refine yAj ?_;refine yAa (yAn rfl e6) ?_|refine xst ?_|refine xsa ?_;intro _|refine xsb ?_ ?_<;>intro _<;>try omega|refine xsc ?_|refine xdr 2 yDp ?_|refine xdr 15 yDp ?_|refine xsd ?_ ?_|exact Rech.nil|exact xdn ()|fail)
theorem ySl (hE:ErrsOn L8 W E) (hn:D.n≤65536) (at_:Int) (h:D.roomB at_=true) (ho:D.off=true):CtU prog W 27 [zPp p,.int .i64 at_] [DiskP p D] (.tuple #[strV [],.int .i64 0,yAr E 12]) [DiskP p D]:=by
 have c1:CtU prog W 56 [zPp p,.int .i64 at_] [DiskP p D] (.bool true) [DiskP p D]:=(yI0 at_ hn).val fun _=>by rw [h]
 have hat:0≤at_∧at_≤(D.n:Int)-2:=by unfold Dsk.roomB at h;simpa using h
 have c2:CtU prog W 57 [zPp p,.int .i64 (at_+0)] [DiskP p D] (.tuple #[strV [],yAr E 12]) [DiskP p D]:=(yK7 hE _).val fun _=>by simp [Dsk.readS,Dsk.readE,ho]
 refine Ct.enter func27 rfl ntmps27 zW (fun R=>?_)
 repeat' (first|refine yAb ?_;refine xca c1 fun _=>?_|refine xst ?_|refine xsa ?_;intro _|refine xsb ?_ ?_<;>intro _<;>try omega|refine xsc ?_|refine xdr 2 yDp ?_|refine xdr 15 yDp ?_|refine xsd ?_ ?_|exact Rech.nil|fail)
 refine yAz (fun _:Unit=>[(0,zPp p),(1,.int .i64 at_),(19,.int .i64 0)]) (fun _=>[DiskP p D]++R) (fun _=>0) () xB (xN) (fun _=>?_)
 repeat' (first|refine yAb ?_;refine xca c2 fun _=>?_|refine xst ?_|refine xsa ?_;intro _|refine xsb ?_ ?_<;>intro _<;>try omega|refine xsc ?_|refine xdr 2 yDp ?_|refine xdr 15 yDp ?_|refine xsd ?_ ?_|exact Rech.nil|exact xdn ()|fail)
theorem yUW (hE:ErrsOn L8 W E) (hN:NibAt W) (hn:D.n≤65536) (at_:Int) (h:D.roomB at_=true) (ho:D.off=false) :
 CtU prog W 27 [zPp p,.int .i64 at_] [DiskP p D] (.tuple #[strV (yBt D at_),.int .i64 (yBC D at_),yAr E (yA9 D at_)]) [DiskP p D]:=by
 have c1:CtU prog W 56 [zPp p,.int .i64 at_] [DiskP p D] (.bool true) [DiskP p D]:=(yI0 at_ hn).val fun _=>by rw [h]
 have e14:W.cell? ⟨16,0,none⟩=some (yAr E 14):=hE.at_ 14 zX
 have hat:0≤at_∧at_≤(D.n:Int)-2:=by unfold Dsk.roomB at h;simpa using h
 have hE1:yA9 D at_=if yAL D at_.toNat 2=0 then 14 else 0:=by unfold yA9;rw [if_neg (by rw [h];simp),if_neg (by rw [ho];simp)]
 have hvb:=yGa D at_.toNat
 have hcr:∀ k:Nat,k<2→CtU prog W 57 [zPp p,.int .i64 (at_+(k:Nat))] [DiskP p D] (.tuple #[strV (D.rd (at_.toNat+k)),yAr E 0]) [DiskP p D]:=fun k hk=>(yK7 hE _).val fun _=>by
  have hh:D.has (at_+(k:Nat))=true:=by unfold Dsk.has;exact zY zO
  have:(at_+(k:Nat)).toNat=at_.toNat+k:=zO
  simp [Dsk.readS,Dsk.readE,ho,hh,this]
 have hV0:yAL D at_.toNat 0=0:=rfl
 have hS0:yBv D at_.toNat 0=[]:=rfl
 have hVn:∀ k,yAL D at_.toNat (k+1)=if yAL D at_.toNat k<yAM (D.rd (at_.toNat+k)) k then yAM (D.rd (at_.toNat+k)) k else yAL D at_.toNat k:=fun _=>rfl
 have hSn:∀ k,yBv D at_.toNat (k+1)=if yAL D at_.toNat k<yAM (D.rd (at_.toNat+k)) k then yCu (D.rd (at_.toNat+k)) k else yBv D at_.toNat k:=fun _=>rfl
 unfold yBt yBC
 rw [hE1]
 obtain ⟨V,hV⟩:∃ V,V=yAL D at_.toNat:=⟨_,rfl⟩
 obtain ⟨S,hS⟩:∃ S,S=yBv D at_.toNat:=⟨_,rfl⟩
 simp only [← hV,← hS] at hV0 hS0 hVn hSn hvb ⊢
 clear hV hS hE1
 refine Ct.enter func27 rfl ntmps27 zW (fun R=>?_)
 repeat' (first|refine yAb ?_;refine xca c1 fun _=>?_|refine xst ?_|refine xsa ?_;intro _|refine xsb ?_ ?_<;>intro _<;>try omega|refine xsc ?_|refine xdr 2 yDp ?_|refine xdr 15 yDp ?_|refine xsd ?_ ?_|exact Rech.nil|fail)
 refine yAz (fun i:{k:Nat//k≤2}=>[(0,zPp p),(1,.int .i64 at_),(7,.int .i64 (V i.1)),(8,strV (S i.1)),(19,.int .i64 (i.1:Nat))]) (fun _=>[DiskP p D]++R) (fun i=>2-i.1) ⟨0,zO⟩
  (Subs.cons rfl (Subs.cons rfl (Subs.cons (show _=some (Value.int .i64 (V 0)) from by rw [hV0];rfl) (Subs.cons (show _=some (strV (S 0)) from by rw [hS0];rfl) xB)))) (xN) (fun ⟨k,hk⟩=>?_)
 dsimp only
 by_cases hlt:k<2
 ·have cr:=hcr k hlt
  have cc:=yUV hE hN (D.rd (at_.toNat+k)) k
  by_cases hgt:V k<yAM (D.rd (at_.toNat+k)) k
  ·have hq:decide (V k<yAM (D.rd (at_.toNat+k)) k)=true:=zY hgt
   have h1:=hVn k
   have h2:=hSn k
   rw [if_pos hgt] at h1 h2
   repeat' (first|(refine yAb ?_;first|refine xca cc fun _=>?_|refine xca cr fun _=>?_)|refine yAa (yAe rfl rfl hq) ?_|refine xst ?_|refine xsa ?_;intro _|refine xsb ?_ ?_<;>intro _<;>try omega|refine xsc ?_|refine xdr 2 yDp ?_|refine xdr 15 yDp ?_|refine xsd ?_ ?_|exact Rech.nil|fail)
   refine yAp ⟨k+1,zO⟩ (by show 2-(k+1)<2-k;omega) ?_ (xN)
   dsimp only
   rw [h1,h2]
   exact xB
  ·have hq:decide (V k<yAM (D.rd (at_.toNat+k)) k)=false:=zZ hgt
   have h1:=hVn k
   have h2:=hSn k
   rw [if_neg hgt] at h1 h2
   repeat' (first|(refine yAb ?_;first|refine xca cc fun _=>?_|refine xca cr fun _=>?_)|refine yAa (yAe rfl rfl hq) ?_|refine xst ?_|refine xsa ?_;intro _|refine xsb ?_ ?_<;>intro _<;>try omega|refine xsc ?_|refine xdr 2 yDp ?_|refine xdr 15 yDp ?_|refine xsd ?_ ?_|exact Rech.nil|fail)
   refine yAp ⟨k+1,zO⟩ (by show 2-(k+1)<2-k;omega) ?_ (xN)
   dsimp only
   rw [h1,h2]
   exact xB
 ·have hk2:k=2:=by omega
  subst hk2
  by_cases hz:V 2=0
  ·rw [if_pos hz,if_neg zO,if_neg zO]
   repeat' (first|refine yAj ?_;refine yAa (yAn rfl e14) ?_|refine yAa (yDf rfl rfl hz) ?_|refine xst ?_|refine xsa ?_;intro _|refine xsb ?_ ?_<;>intro _<;>try omega|refine xsc ?_|refine xdr 2 yDp ?_|refine xdr 15 yDp ?_|refine xsd ?_ ?_|exact Rech.nil|exact xdn ()|fail)
  ·rw [if_neg hz,if_pos rfl,if_pos rfl]
   repeat' (first|refine yAa (yBl rfl rfl hz) ?_|refine xst ?_|refine xsa ?_;intro _|refine xsb ?_ ?_<;>intro _<;>try omega|refine xsc ?_|refine xdr 2 yDp ?_|refine xdr 15 yDp ?_|refine xsd ?_ ?_|exact Rech.nil|exact xdn ()|fail)
theorem yCE (hE:ErrsOn L8 W E) (hN:NibAt W) (hn:D.n≤65536) (at_:Int) :
 CtU prog W 27 [zPp p,.int .i64 at_] [DiskP p D] (.tuple #[strV (yBt D at_),.int .i64 (yBC D at_),yAr E (yA9 D at_)]) [DiskP p D]:=by
 cases h:D.roomB at_ with
 |false=>exact (ySk hE hn at_ h).val fun _=>by simp [yBt,yBC,yA9,h]
 |true=>
  cases ho:D.off with
  |true=>exact (ySl hE hn at_ h ho).val fun _=>by simp [yBt,yBC,yA9,h,ho]
  |false=>exact yUW hE hN hn at_ h ho
end
def yCg (D:Dsk) (at_ v:Int):Bool:=D.roomB at_ && decide (1≤v) && decide (v≤1099511627776)
def yCV (D:Dsk) (at_ v:Int) (s:List UInt8):Dsk:=D.writeD (at_+v % 2) (yAx v s)
def yBu (D:Dsk) (at_ v:Int) (s:List UInt8):Nat:=
 if yCg D at_ v=false then 6 else if 234<s.length then 3 else if D.writeE (at_+v % 2) (yAx v s)≠0 then D.writeE (at_+v % 2) (yAx v s) else (yCV D at_ v s).flushE
def yA6 (D:Dsk) (at_ v:Int) (s:List UInt8):Dsk:=
 if yCg D at_ v=false then D else if 234<s.length then D else if D.writeE (at_+v % 2) (yAx v s)≠0 then yCV D at_ v s else (yCV D at_ v s).flushD
theorem yEp (D:Dsk) (i:Int) (s:List UInt8):(D.writeD i s).und.length≤D.und.length+1:=by
 unfold Dsk.writeD
 split
 ·omega
 split
 ·split
  ·dsimp only
   split
   ·rw [Dsk.gone_und];simp
   ·show (Dsk.gone _).und.length≤_;rw [Dsk.gone_und];simp
  ·omega
 ·omega
theorem yCW {E:Nat→Addr} {k:Nat} (h:k≠0):∃ a,yAr E k=.iface 281 (.pointer (some a)):=⟨E k,by unfold yAr;rw [if_neg h]⟩
section
variable {W:World} {E:Nat→Addr} {p:Nat} {D:Dsk}
theorem yQf (hE:ErrsOn L8 W E) (hn:D.n≤65536) (at_ v:Int) (s:List UInt8) (h:yCg D at_ v=false):CtU prog W 70 [zPp p,.int .i64 at_,.int .i64 v,strV s] [DiskP p D] (yAr E 6) [DiskP p D]:=by
 have e6:W.cell? ⟨5,0,none⟩=some (yAr E 6):=hE.at_ 6 zX
 have c1:=yI0 (W:=W) (p:=p) at_ hn
 cases hr:D.roomB at_ with
 |false=>
  rw [hr] at c1
  refine Ct.enter func70 rfl ntmps70 zW (fun R=>?_)
  repeat' (first|refine yAb ?_;refine xca c1 fun _=>?_|refine yAj ?_;refine yAa (yAn rfl e6) ?_|refine xst ?_|refine xsa ?_;intro _|refine xsb ?_ ?_<;>intro _<;>try omega|refine xsc ?_|exact xdn ()|fail)
 |true=>
  rw [hr] at c1
  by_cases hv:v<1
  ·have q1:decide (v<1)=true:=zY hv
   refine Ct.enter func70 rfl ntmps70 zW (fun R=>?_)
   repeat' (first|refine yAb ?_;refine xca c1 fun _=>?_|refine yAj ?_;refine yAa (yAn rfl e6) ?_|refine yAa (yAc rfl rfl q1) ?_|refine xst ?_|refine xsa ?_;intro _|refine xsb ?_ ?_<;>intro _<;>try omega|refine xsc ?_|exact xdn ()|fail)
  ·have q1:decide (v<1)=false:=zZ hv
   have q2:decide (1099511627776<v)=true:=by
    refine zY ?_
    unfold yCg at h
    rw [hr,zY (show 1≤v by omega)] at h
    simp at h
    omega
   refine Ct.enter func70 rfl ntmps70 zW (fun R=>?_)
   repeat' (first|refine yAb ?_;refine xca c1 fun _=>?_|refine yAj ?_;refine yAa (yAn rfl e6) ?_|refine yAa (yAc rfl rfl q1) ?_|refine yAa (yAe rfl rfl q2) ?_|refine xst ?_|refine xsa ?_;intro _|refine xsb ?_ ?_<;>intro _<;>try omega|refine xsc ?_|exact xdn ()|fail)
theorem yQg (hE:ErrsOn L8 W E) (hN:NibAt W) (hn:D.n≤65536) (hul:D.und.length<1073741823) (at_ v:Int) (s:List UInt8) (h:yCg D at_ v=true) :
 CtU prog W 70 [zPp p,.int .i64 at_,.int .i64 v,strV s] [DiskP p D] (yAr E (yBu D at_ v s)) [DiskP p (yA6 D at_ v s)]:=by
 have hm:D.roomB at_=true∧1≤v∧v≤1099511627776:=by
  unfold yCg at h;simp at h;exact ⟨h.1.1,h.1.2,h.2⟩
 have hat:0≤at_∧at_≤(D.n:Int)-2:=by have:=hm.1;unfold Dsk.roomB at this;simpa using this
 have c1:=yI0 (W:=W) (p:=p) at_ hn
 rw [hm.1] at c1
 have q1:decide (v<1)=false:=zZ zO
 have q2:decide (1099511627776<v)=false:=zZ zO
 have hw:IntKind.u64.wrap v=v:=by show v % 18446744073709551616=v;omega
 have hv0:v≠0:=zO
 unfold yBu yA6
 have hb:¬ (yCg D at_ v=false):=by rw [h];simp
 rw [if_neg hb,if_neg hb]
 by_cases hl:234<s.length
 ·rw [if_pos hl,if_pos hl]
  have c2:=ySh hE v s hv0 hl
  refine Ct.enter func70 rfl ntmps70 zW (fun R=>?_)
  repeat' (first|(refine yAb ?_;first|refine xca c2 fun _=>?_|refine xca c1 fun _=>?_)|refine yAa (yAg rfl hw) ?_|refine yAa (yAc rfl rfl q1) ?_|refine yAa (yAe rfl rfl q2) ?_|refine xst ?_|refine xsa ?_;intro _|refine xsb ?_ ?_<;>intro _<;>try omega|refine xsc ?_|exact xdn ()|fail)
 rw [if_neg hl,if_neg hl]
 have c2:=yLh hN v s hv0 zO
 have hrb:at_+v % 2≤9223372036854775807∧-9223372036854775808≤at_+v % 2:=zO
 have c3:CtU prog W 105 [zPp p,.int .i64 (at_+v % 2),strV (yAx v s)] [DiskP p D] (yAr E (D.writeE (at_+v % 2) (yAx v s))) [DiskP p (yCV D at_ v s)]:=yK8 hE _ _ zO
 obtain ⟨D1,hD1⟩:∃ D1,D1=yCV D at_ v s:=⟨_,rfl⟩
 have hu1:D1.und.length<1073741824:=by
  rw [hD1]
  unfold yCV
  have:=yEp D (at_+v % 2) (yAx v s)
  omega
 obtain ⟨e,he⟩:∃ e,e=D.writeE (at_+v % 2) (yAx v s):=⟨_,rfl⟩
 rw [← hD1,← he] at c3 ⊢
 by_cases hz:e=0
 ·subst hz
  have hb0:¬ ((0:Nat)≠0):=zW
  rw [if_neg hb0,if_neg hb0]
  have c4:CtU prog W 106 [zPp p] [DiskP p D1] (yAr E D1.flushE) [DiskP p D1.flushD]:=yK9 hE hu1
  have c3':CtU prog W 105 [zPp p,.int .i64 (at_+v % 2),strV (yAx v s)] [DiskP p D] .nilIface [DiskP p D1]:=c3
  refine Ct.enter func70 rfl ntmps70 zW (fun R=>?_)
  repeat' (first|(refine yAb ?_;first|refine xca c4 fun _=>?_|refine xca c3' fun _=>?_|refine xca c2 fun _=>?_|refine xca c1 fun _=>?_)|refine yAa (yAg rfl hw) ?_|refine yAa (yE6 rfl rfl zO) ?_|refine yAa (yAc rfl rfl q1) ?_|refine yAa (yAe rfl rfl q2) ?_|refine xst ?_|refine xsa ?_;intro _|refine xsb ?_ ?_<;>intro _<;>try omega|refine xsc ?_|exact xdn ()|fail)
 ·rw [if_pos hz,if_pos hz]
  obtain ⟨ea,hea⟩:=yCW (E:=E) hz
  rw [hea] at c3 ⊢
  refine Ct.enter func70 rfl ntmps70 zW (fun R=>?_)
  repeat' (first|(refine yAb ?_;first|refine xca c3 fun _=>?_|refine xca c2 fun _=>?_|refine xca c1 fun _=>?_)|refine yAa (yAg rfl hw) ?_|refine yAa (yE6 rfl rfl zO) ?_|refine yAa (yAc rfl rfl q1) ?_|refine yAa (yAe rfl rfl q2) ?_|refine xst ?_|refine xsa ?_;intro _|refine xsb ?_ ?_<;>intro _<;>try omega|refine xsc ?_|exact xdn ()|fail)
theorem yMy (hE:ErrsOn L8 W E) (hN:NibAt W) (hn:D.n≤65536) (hul:D.und.length<1073741823) (at_ v:Int) (s:List UInt8) :
 CtU prog W 70 [zPp p,.int .i64 at_,.int .i64 v,strV s] [DiskP p D] (yAr E (yBu D at_ v s)) [DiskP p (yA6 D at_ v s)]:=by
 cases h:yCg D at_ v with
 |true=>exact yQg hE hN hn hul at_ v s h
 |false=>
  have e1:yBu D at_ v s=6:=by unfold yBu;rw [if_pos h]
  have e2:yA6 D at_ v s=D:=by unfold yA6;rw [if_pos h]
  rw [e1,e2]
  exact yQf hE hn at_ v s h
end
theorem yBa (n:Nat) (h:n<2 ^ 64):IntKind.u64.wrap (n:Int)=(n:Int):=by
 have e:IntKind.u64.wrap (n:Int)=(n:Int) % 18446744073709551616:=rfl
 rw [e];omega
theorem xAM (x y:Nat) (hx:x<2 ^ 64) (hy:y<2 ^ 64):bits .or .u64 (x:Int) (y:Int)=((x ||| y:Nat):Int):=by
 have e:bits .or .u64 (x:Int) (y:Int)=IntKind.u64.wrap ((BitVec.ofInt 64 (x:Int) ||| BitVec.ofInt 64 (y:Int)).toNat:Int):=rfl
 have b1:(BitVec.ofInt 64 (x:Int)).toNat=x:=by rw [BitVec.toNat_ofInt];omega
 have b2:(BitVec.ofInt 64 (y:Int)).toNat=y:=by rw [BitVec.toNat_ofInt];omega
 rw [e,BitVec.toNat_or,b1,b2]
 exact yBa _ (Nat.or_lt_two_pow hx hy)
theorem yEO (x i:Nat) (c:UInt8) (hi:i<8) (hx:x<2 ^ (8*i)):yDN (x:Int) i c=((x+c.toNat*2 ^ (8*i):Nat):Int):=by
 have hc:=zLy c
 have hm:min (8*(i:Int)).toNat IntKind.u64.bits=8*i:=by
  show min (8*(i:Int)).toNat 64=8*i
  omega
 have hp:c.toNat*2 ^ (8*i)<2 ^ (8*i+8):=by
  rw [Nat.pow_add,Nat.mul_comm]
  exact Nat.mul_lt_mul_of_pos_left zO (Nat.two_pow_pos _)
 have hp2:(2:Nat) ^ (8*i+8)≤2 ^ 64:=Nat.pow_le_pow_right zO zO
 have hx2:(2:Nat) ^ (8*i)≤2 ^ 64:=Nat.pow_le_pow_right zO zO
 unfold yDN
 rw [hm,yBa c.toNat zO]
 have e2:((c.toNat:Int)*2 ^ (8*i))=((c.toNat*2 ^ (8*i):Nat):Int):=zW
 rw [e2,yBa _ zO,xAM _ _ zO zO]
 congr 1
 rw [Nat.or_comm,Nat.mul_comm,← Nat.two_pow_add_eq_or_of_lt hx,Nat.add_comm]
theorem yCo (v i:Nat) (hi:i<8):(yCs (v:Int) i).toNat=v / 2 ^ (8*i) % 256:=by
 have hm:min (8*(i:Int)).toNat IntKind.u64.bits=8*i:=by
  show min (8*(i:Int)).toNat 64=8*i
  omega
 unfold yCs yMu
 rw [hm]
 have e:(v:Int).fdiv (2 ^ (8*i))=((v / 2 ^ (8*i):Nat):Int):=by
  rw [Int.fdiv_eq_ediv_of_nonneg _ (by exact Int.pow_nonneg zX)]
  simp
 rw [e]
 have e2:∀ z:Nat,IntKind.u8.wrap (z:Int)=((z % 256:Nat):Int):=fun z=>by
  have:IntKind.u8.wrap (z:Int)=(z:Int) % 256:=rfl
  rw [this];omega
 rw [e2,zLe,UInt8.toNat_ofNat']
 omega
theorem yHF (l:List UInt8) (v:Nat) (n:Nat) (hn:n≤8) (h:∀ i,i<n→l.getD i 0=yCs (v:Int) i):yCt l n=((v % 2 ^ (8*n):Nat):Int):=by
 induction n with
 |zero=>simp [yCt,Nat.mod_one]
 |succ n ih=>
  show yDN (yCt l n) n (l.getD n 0)=_
  rw [ih zO (fun i hi=>h i zO),h n zO,yEO _ _ _ zO (Nat.mod_lt _ (Nat.two_pow_pos _)),yCo _ _ zO]
  congr 1
  rw [show 8*(n+1)=8*n+8 by omega,Nat.pow_add,Nat.mod_mul,Nat.mul_comm (2 ^ (8*n)) _]
theorem yLi (x:Int) (n i:Nat) (hi:i<n):(yEo x n).getD i 0=yCs x i:=by
 simp [yEo,List.getD,hi]
theorem yFM (l:List UInt8) (o:Nat) (b:List UInt8) (i:Nat) (h:o+b.length≤l.length) (h1:o≤i) (h2:i<o+b.length):(lay l o b).getD i 0=b.getD (i-o) 0:=by
 unfold lay
 simp only [List.getD]
 rw [zLn (by simp;omega),zLg,Nat.min_eq_left zO,zLp zO]
theorem yDO (l:List UInt8) (o:Nat) (b:List UInt8) (i:Nat) (h:o+b.length≤l.length) (h1:i<o∨o+b.length≤i):(lay l o b).getD i 0=l.getD i 0:=by
 unfold lay
 simp only [List.getD]
 rcases h1 with h1|h1
 ·rw [zLp (by simp;omega),List.getElem?_take_of_lt h1]
 ·rw [zLn (by simp;omega),zLg,Nat.min_eq_left zO,zLn zO,zLC]
  congr 2
  omega
theorem yDP (l:List UInt8) (o i:Nat):(l.drop o).getD i 0=l.getD (o+i) 0:=by
 simp [List.getD]
section
variable (v:Nat) (s:List UInt8) (hl:s.length≤234)
include hl
theorem yI1 (i:Nat) (h1:248≤i) (h2:i<256):(yAx v s).getD i 0=yCs (v:Int) (i-248):=by
 unfold yAx
 rw [yFM _ _ _ _ (by rw [yAD,yCU _ _ hl];omega) h1 (by rw [yAD];omega),yLi _ _ _ zO]
theorem yLj (i:Nat) (h:i<244):(yAx v s).getD i 0=(yDi v s).getD i 0:=by
 unfold yAx
 rw [yDO _ _ _ _ (by rw [yAD,yCU _ _ hl];omega) (.inl zO)]
 unfold yGV
 rw [yDO _ _ _ _ (by rw [yAD,yDu _ _ hl];omega) (.inl zO)]
theorem ySm (i:Nat) (h:i<8):(yAx v s).getD i 0=yCs (v:Int) i:=by
 rw [yLj v s hl i zO]
 unfold yDi
 rw [yDO _ _ _ _ (by rw [yCn];omega) (.inl zO)]
 unfold yF9
 rw [yDO _ _ _ _ (by rw [yAD,yCT];omega) (.inl zO)]
 unfold yIf
 rw [yFM _ _ _ _ (by rw [yAD,zLB];omega) zO (by rw [yAD];omega),Nat.sub_zero,yLi _ _ _ h]
theorem ySn (i:Nat) (h:i<2):(yAx v s).getD (8+i) 0=yCs ((s.length:Nat):Int) i:=by
 rw [yLj v s hl _ zO]
 unfold yDi
 rw [yDO _ _ _ _ (by rw [yCn];omega) (.inl zO)]
 unfold yF9
 rw [yBa s.length zO,yFM _ _ _ _ (by rw [yAD,yCT];omega) zO (by rw [yAD];omega),yLi _ _ _ zO]
 congr 1
 omega
theorem ySo (i:Nat) (h:i<s.length):(yAx v s).getD (10+i) 0=s.getD i 0:=by
 rw [yLj v s hl _ zO]
 unfold yDi
 rw [yFM _ _ _ _ (by rw [yCn];omega) zO zO]
 congr 1
 omega
theorem ySp (hv:v<2 ^ 64):yCt (yAx v s) 8=(v:Int):=by
 rw [yHF _ v 8 zO (fun i hi=>ySm v s hl i hi),Nat.mod_eq_of_lt zO]
theorem yI2 (hv:v<2 ^ 64):yCt ((yAx v s).drop 248) 8=(v:Int):=by
 rw [yHF _ v 8 zO (fun i hi=>by rw [yDP,yI1 v s hl _ zO zO,Nat.add_sub_cancel_left]),Nat.mod_eq_of_lt zO]
theorem yKe:yC6 (yAx v s)=s.length:=by
 have h:=yHF ((yAx (v:Int) s).drop 8) s.length 2 zO (fun i hi=>by rw [yDP];exact ySn v s hl i hi)
 have e:s.length % 2 ^ (8*2)=s.length:=Nat.mod_eq_of_lt (by show s.length<65536;omega)
 rw [e] at h
 unfold yC6
 rw [h,zLe]
theorem yQh:yDV (yAx v s)=s:=by
 have hL:=yAV (v:Int) s hl
 unfold yDV
 rw [yKe v s hl]
 apply List.ext_getElem
 ·rw [zLf,zLg];omega
 ·intro i h1 h2
  have h3:=ySo v s hl i h2
  simp only [List.getElem_drop,List.getElem_take]
  rw [List.getD,zLb zO,List.getD,zLb h2] at h3
  simpa using h3
theorem yMz (hv0:v≠0):yBU (v:Int) (yAx v s)=some s:=by
 unfold yBU
 rw [if_neg zO,if_neg (by have:=yAV (v:Int) s hl;simpa using this),if_neg (by rw [yKe v s hl];omega),yQh v s hl,if_pos rfl]
theorem yKf (hv0:1≤v) (hv1:v≤1099511627776):yCA (yAx v s) ((v:Int) % 2)=some ((v:Int),s):=by
 unfold yCA
 rw [ySp v s hl zO,yI2 v s hl zO,yMz v s hl zO,if_neg (by have:=yAV (v:Int) s hl;simpa using this),if_neg zW,if_neg zO,if_neg zO,if_neg zW]
 rfl
end
end Go.Proofs.YtlnbkbfblhofbaaGreatDoor
