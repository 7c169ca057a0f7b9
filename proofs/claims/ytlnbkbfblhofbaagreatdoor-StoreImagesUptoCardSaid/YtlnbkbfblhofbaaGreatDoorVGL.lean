/-
  JRf3, JRf4, JRf5.
-/
import Derived.Test.YtlnbkbfblhofbaaGreatDoorVGI
set_option maxRecDepth 100000
set_option maxHeartbeats 64000000
namespace Go.Proofs.YtlnbkbfblhofbaaGreatDoor
open Go Go.RowKit
open Go.Proofs.Tryz
abbrev yEB:Pl:=(.op 0 (.op 1 (.op 2 (.op 3 (.op 4 (.op 5 (.op 6 (.op 7 (.op 8 (.op 9 (.op 10 (.op 11 (.op 12 (.op 13 (.op 14 (.op 15 (.op 16 (.op 17 (.op 18 .nil)))))))))))))))))))
def yZK (o:Option (List UInt8 × Int)) (i:Nat):Value:=match o with
 |none=>.tuple #[strV [],.int .i64 0,.bool false]
 |some (s,u)=>.tuple #[strV s,.int .i64 ((i:Int)+u),.bool true]
structure ShF (kd:IntKind) (i s y:Int):Prop where
 h0:0≤s
 h:kd.wrap (i*2 ^ (min s.toNat kd.bits))=y
theorem yFW {P:Program} {W:World} {n:Nat} {E:Env} {H:List SP} {t u:TypeId} {x y:Operand} {kd yk:IntKind} {i j r:Int} (hx:Env.ev E x=some (.int kd i)) (hy:Env.ev E y=some (.int yk j)) (h:ShF kd i j r):Ev P W n E H (.binOp .shl t x y u) (.int kd r):=yLv hx hy h.h0 h.h
theorem yV0 {st:Int} {raw q:List UInt8} (h:yBU st raw=some q):q.length≤234:=by
 unfold yBU at h
 split at h
 ·cases h
 split at h
 ·cases h
 rename_i hl
 split at h
 ·cases h
 rename_i h2
 split at h
 ·cases h
  rw [yD7 raw zO zO];omega
 ·cases h
theorem yYs {D:Dsk} {at_ n:Int} {ver i:Nat} {q:List UInt8} (h:yCG D at_ n ver i=some q):q.length≤234:=by
 unfold yCG at h
 split at h
 ·cases h
 split at h
 ·cases h
 exact yV0 h
section
variable {W:World} {E:Nat→Addr} {p g:Nat} {D:Dsk}
theorem yQ4 (hok:D.ok) (hul:D.und.length<1073741824) (at_ n:Int) (ver i:Nat) (hn:D.n≤65536) (ho:D.off=false) (h:yMJ D at_ n (ver:Nat)) (hi:(i:Int)<n):CtU prog W 154 [zPp p,.int .i64 at_,.int .i64 n,.int .i64 (ver:Nat),.int .i64 (i:Nat)] [yBc p D] (yZK (yEF D at_ n ver i) i) [yBc p D]:=by
 have co:=fun k (hk:((i+k:Nat):Int)<n)=>yTT (W:=W) (p:=p) hok hul at_ n ver (i+k) hn ho h hk
 have hple:∀ k q,yCG D at_ n ver (i+k)=some q→q.length≤234:=fun k q h=>yYs h
 obtain ⟨h1,h2,h3,h4,h5,h6,h7⟩:=h
 obtain ⟨res,hres⟩:∃ res,yZK (yEF D at_ n ver i) i=res:=⟨_,rfl⟩
 rw [hres]
 have hno:yEF D at_ n ver i=none→res=.tuple #[strV [],.int .i64 0,.bool false]:=fun e=>by rw [← hres,e];rfl
 refine Ct.enter func154 rfl ntmps154 zW (fun R=>?_)
 have c1:=co 0 (by simpa using hi)
 rw [zLz] at c1
 cases hq:yCG D at_ n ver i with
 |none=>
  rw [hq] at c1
  have c1':CtU prog W 189 [zPp p,.int .i64 at_,.int .i64 (i:Nat),.int .i64 (ver:Nat)] [yBc p D] (.tuple #[strV [],.bool false]) [yBc p D]:=c1
  rw [hno (yG5 hq)]
  repeat' (first|refine yAb ?_;refine xca c1' fun _=>?_|refine xst ?_|refine xsa ?_;intro _|refine xsb ?_ ?_<;>intro _<;>try omega|refine xsc ?_|refine xdr 4 yEB ?_|refine xsd ?_ ?_|exact Rech.nil|exact xdn ()|fail)
 |some q=>
 rw [hq] at c1
 have c1':CtU prog W 189 [zPp p,.int .i64 at_,.int .i64 (i:Nat),.int .i64 (ver:Nat)] [yBc p D] (.tuple #[strV q,.bool true]) [yBc p D]:=c1
 have hql:=hple 0 q hq
 by_cases l5:q.length<5
 ·have q5:decide ((q.length:Int)<5)=true:=zY zO
  rw [hno (yQ2 hq l5)]
  repeat' (first|refine yAb ?_;refine xca c1' fun _=>?_|refine yFg ?_;refine yAa (yAc rfl rfl q5) ?_|refine xst ?_|refine xsa ?_;intro _|refine xsb ?_ ?_<;>intro _<;>try omega|refine xsc ?_|refine xdr 4 yEB ?_|refine xsd ?_ ?_|exact Rech.nil|exact xdn ()|fail)
 have q5:decide ((q.length:Int)<5)=false:=zZ zO
 obtain ⟨c0,hc0⟩:∃ c,q[(0:Int).toNat]? = some c:=⟨_,zLb (by show 0<q.length;omega)⟩
 obtain ⟨b1,hb1⟩:∃ c,q[(1:Int).toNat]? = some c:=⟨_,zLb (by show 1<q.length;omega)⟩
 obtain ⟨b2,hb2⟩:∃ c,q[(2:Int).toNat]? = some c:=⟨_,zLb (by show 2<q.length;omega)⟩
 obtain ⟨b3,hb3⟩:∃ c,q[(3:Int).toNat]? = some c:=⟨_,zLb (by show 3<q.length;omega)⟩
 obtain ⟨b4,hb4⟩:∃ c,q[(4:Int).toNat]? = some c:=⟨_,zLb (by show 4<q.length;omega)⟩
 have hgd:q.getD 0 0=c0:=by rw [List.getD];rw [show q[0]? = some c0 from hc0];rfl
 by_cases hh:c0=1
 rotate_left
 ·have h6':((c0.toNat:Nat):Int)≠1:=by
   intro e
   apply hh
   apply UInt8.toNat_inj.1
   show c0.toNat=1
   omega
  rw [hno (yTQ hq (by rw [hgd];exact hh))]
  repeat' (first|refine yAb ?_;refine xca c1' fun _=>?_|refine yOV ?_;refine yAa (yAk rfl rfl zO hc0) ?_|refine yD3 ?_;refine yAa (yA0 rfl rfl h6') ?_|refine yFg ?_;refine yAa (yAc rfl rfl q5) ?_|refine xst ?_|refine xsa ?_;intro _|refine xsb ?_ ?_<;>intro _<;>try omega|refine xsc ?_|refine xdr 4 yEB ?_|refine xsd ?_ ?_|exact Rech.nil|exact xdn ()|fail)
 have h6':((c0.toNat:Nat):Int)=1:=by rw [hh];rfl
 have hZ:yE3 q=b1.toNat+b2.toNat*256+b3.toNat*65536+b4.toNat*16777216:=by
  unfold yE3
  rw [List.getD,List.getD,List.getD,List.getD,show q[1]? = some b1 from hb1,show q[2]? = some b2 from hb2,show q[3]? = some b3 from hb3,show q[4]? = some b4 from hb4]
  rfl
 have u1:=zLy b1
 have u2:=zLy b2
 have u3:=zLy b3
 have u4:=zLy b4
 obtain ⟨y2,hy2⟩:∃ y,y=b2.toNat*256:=⟨_,rfl⟩
 obtain ⟨y3,hy3⟩:∃ y,y=b3.toNat*65536:=⟨_,rfl⟩
 obtain ⟨y4,hy4⟩:∃ y,y=b4.toNat*16777216:=⟨_,rfl⟩
 have s2:ShF .i64 (b2.toNat:Int) 8 ((y2:Nat):Int):=by
  refine ⟨by decide,?_⟩
  rw [show (b2.toNat:Int)*2 ^ (min (8:Int).toNat IntKind.i64.bits)=(b2.toNat:Int)*256 from rfl,yCF _ zO];omega
 have s3:ShF .i64 (b3.toNat:Int) 16 ((y3:Nat):Int):=by
  refine ⟨by decide,?_⟩
  rw [show (b3.toNat:Int)*2 ^ (min (16:Int).toNat IntKind.i64.bits)=(b3.toNat:Int)*65536 from rfl,yCF _ zO];omega
 have s4:ShF .i64 (b4.toNat:Int) 24 ((y4:Nat):Int):=by
  refine ⟨by decide,?_⟩
  rw [show (b4.toNat:Int)*2 ^ (min (24:Int).toNat IntKind.i64.bits)=(b4.toNat:Int)*16777216 from rfl,yCF _ zO];omega
 have hg4:=fun (h:n-(i:Int)<yBQ (yE3 q:Nat))=>yTR hq h
 have hgap:=fun k (hk:((k:Nat):Int)<yBQ (yE3 q:Nat))=>yVX (k:=k) hq hk
 have hall:=fun (P:List (List UInt8))=>yVY (D:=D) (at_:=at_) (n:=n) (ver:=ver) (i:=i) (P:=P) hq
 obtain ⟨Z,hZZ⟩:∃ Z,Z=yE3 q:=⟨_,rfl⟩
 rw [← hZZ] at hZ hg4 hgap hall
 obtain ⟨z2,hz2⟩:∃ z,z=b1.toNat+y2:=⟨_,rfl⟩
 obtain ⟨z3,hz3⟩:∃ z,z=z2+y3:=⟨_,rfl⟩
 have hz4:Z=z3+y4:=zO
 have hZb:Z≤4294967296:=zO
 have cc:=yVc (W:=W) (Z:Nat) zO
 have hcost:yBQ (Z:Nat)=if ((Z:Nat):Int)<0 then 0 else if ((Z:Nat):Int)≤229 then 1 else 2+(((Z:Nat):Int)-230) / 233:=rfl
 rw [if_neg zO] at hcost
 obtain ⟨need,hneed⟩:∃ m,m=yBQ (Z:Nat):=⟨_,rfl⟩
 rw [← hneed] at cc hg4 hgap hall hcost
 have hpl:=fun (T:List UInt8) (hT:T.length=Z)=>(yCL T).trans (show yBQ T.length=need by rw [hneed,hT])
 clear hneed hZ hZZ
 have hn1:1≤need:=by split at hcost <;> omega
 by_cases h8:n-(i:Int)<need
 ·have q8:decide (n-(i:Int)<need)=true:=zY h8
  rw [hno (hg4 h8)]
  repeat' (first|(refine yAb ?_;first|refine xca cc fun _=>?_|refine xca c1' fun _=>?_)|refine yEf ?_;refine yAa (yB6 rfl zO) ?_|(refine yOV ?_;first|refine yAa (yAk rfl rfl zO hb4) ?_|refine yAa (yAk rfl rfl zO hb3) ?_|refine yAa (yAk rfl rfl zO hb2) ?_|refine yAa (yAk rfl rfl zO hb1) ?_|refine yAa (yAk rfl rfl zO hc0) ?_)|(refine yWf ?_;first|refine yAa (yAd (r:=((Z:Nat):Int)) rfl rfl zO zO) ?_|refine yAa (yAd (r:=((z3:Nat):Int)) rfl rfl zO zO) ?_|refine yAa (yAd (r:=((z2:Nat):Int)) rfl rfl zO zO) ?_)|(refine yY0 ?_;first|refine yAa (yFW rfl rfl s4) ?_|refine yAa (yFW rfl rfl s3) ?_|refine yAa (yFW rfl rfl s2) ?_)|refine yD3 ?_;refine yAa (yAv rfl rfl h6') ?_|refine yFg ?_;refine yAa (yAc rfl rfl q5) ?_|refine yF5 ?_;refine yAa (yAe rfl rfl q8) ?_|refine xst ?_|refine xsa ?_;intro _|refine xsb ?_ ?_<;>intro _<;>try omega|refine xsc ?_|refine xdr 4 yEB ?_|refine xsd ?_ ?_|exact Rech.nil|exact xdn ()|fail)
 have q8:decide (n-(i:Int)<need)=false:=zZ h8
 obtain ⟨q5',hq5⟩:∃ x,q.drop (5:Int).toNat=x:=⟨_,rfl⟩
 have hq5l:q5'.length=q.length-5:=by rw [← hq5];exact zLf
 have htx1:txt [q]=q5':=by rw [← hq5];simp [txt]
 have hZ2:Z≤15300000:=by split at hcost <;> omega
 repeat' (first|(refine yAb ?_;first|refine xca cc fun _=>?_|refine xca c1' fun _=>?_)|refine yGH ?_;refine yG3 rfl rfl (fun g3 c3=>?_)|refine yEf ?_;refine yAa (yB6 rfl zO) ?_|(refine yOV ?_;first|refine yAa (yAk rfl rfl zO hb4) ?_|refine yAa (yAk rfl rfl zO hb3) ?_|refine yAa (yAk rfl rfl zO hb2) ?_|refine yAa (yAk rfl rfl zO hb1) ?_|refine yAa (yAk rfl rfl zO hc0) ?_)|refine yAQ ?_;refine yAa (yAT rfl rfl zO hq5) ?_|(refine yWf ?_;first|refine yAa (yAd (r:=((Z:Nat):Int)) rfl rfl zO zO) ?_|refine yAa (yAd (r:=((z3:Nat):Int)) rfl rfl zO zO) ?_|refine yAa (yAd (r:=((z2:Nat):Int)) rfl rfl zO zO) ?_)|(refine yY0 ?_;first|refine yAa (yFW rfl rfl s4) ?_|refine yAa (yFW rfl rfl s3) ?_|refine yAa (yFW rfl rfl s2) ?_)|refine yD3 ?_;refine yAa (yAv rfl rfl h6') ?_|refine yFg ?_;refine yAa (yAc rfl rfl q5) ?_|refine yF5 ?_;refine yAa (yAe rfl rfl q8) ?_|refine xst ?_|refine xsa ?_;intro _|refine xsb ?_ ?_<;>intro _<;>try omega|refine xsc ?_|refine xdr 4 yEB ?_|refine xsd ?_ ?_|exact Rech.nil|fail)
 clear s2 s3 s4 hb1 hb2 hb3 hb4 hc0 h6' hg4 cc c1 c1' hz2 hz3 hz4 hy2 hy3 hy4 u1 u2 u3 u4 hgd q5 l5
 refine yAz (fun k:{s:List (List UInt8) × List UInt8 × Nat × Nat//(∀ j p,s.1[j]? = some p→yCG D at_ n ver (i+j)=some p)∧txt s.1=s.2.1∧1≤s.1.length∧(s.1.length:Int)≤need∧s.2.1.length≤240*s.1.length}=>[(0,zPp p),(1,.int .i64 at_),(2,.int .i64 n),(3,.int .i64 (ver:Nat)),(4,.int .i64 (i:Nat)),(15,.int .i64 (Z:Nat)),(16,.int .i64 need),(17,.slice (some ⟨k.1.2.2.1,0,none⟩) k.1.2.1.length k.1.2.2.2),(18,.int .i64 (k.1.1.length:Nat))])
  (fun k=>[yBc p D,yLt k.1.2.2.1 k.1.2.1.length k.1.2.2.2 k.1.2.1 5]++R) (fun k=>need.toNat-k.1.1.length) ⟨([q],q5',g3,c3),fun j p hj=>by
   cases j with
   |zero=>cases hj;exact hq
   |succ j=>simp at hj,htx1,Nat.le_refl _,by dsimp only [List.length];omega,by dsimp only [List.length];omega⟩ xB (xN) (fun ⟨(P,T,g4,c4),hP,hT,hP1,hPn,hTl⟩=>?_)
 dsimp only at hP hT hP1 hPn hTl ⊢
 have hPne:P≠[]:=by intro e;rw [e] at hP1;simp at hP1
 by_cases hlt:(P.length:Int)<need
 ·have ql:decide ((P.length:Int)<need)=true:=zY hlt
  have c6:=co P.length zO
  have hgp:=hgap P.length hlt
  have hp6:=hple P.length
  have hnx:=fun q2 (h:yCG D at_ n ver (i+P.length)=some q2)=>fun j p (hj:(P++[q2])[j]? = some p)=>show yCG D at_ n ver (i+j)=some p from (by
   rw [List.getElem?_append] at hj
   split at hj
   ·exact hP j p hj
   ·rename_i hge
    have hl:=(zLc.1 hj).1
    have:j=P.length:=by simp at hl;omega
    subst this
    simp at hj
    rw [← hj];exact h)
  obtain ⟨o2,ho2⟩:∃ o,yCG D at_ n ver (i+P.length)=o:=⟨_,rfl⟩
  rw [ho2] at c6
  cases o2 with
  |none=>
   rw [hno (hgp (fun p hp=>by rw [ho2] at hp;cases hp))]
   have c6':CtU prog W 189 [zPp p,.int .i64 at_,.int .i64 ((i+P.length:Nat):Int),.int .i64 (ver:Nat)] [yBc p D] (.tuple #[strV [],.bool false]) [yBc p D]:=c6
   repeat' (first|refine yAb ?_;refine xca c6' fun _=>?_|refine yWf ?_;refine yAa (yAd (r:=((i+P.length:Nat):Int)) rfl rfl zO zO) ?_|refine yFg ?_;refine yAa (yAc rfl rfl ql) ?_|refine xst ?_|refine xsa ?_;intro _|refine xsb ?_ ?_<;>intro _<;>try omega|refine xsc ?_|refine xdr 4 yEB ?_|refine xsd ?_ ?_|exact Rech.nil|exact xdn ()|fail)
  |some q2=>
   have c6':CtU prog W 189 [zPp p,.int .i64 at_,.int .i64 ((i+P.length:Nat):Int),.int .i64 (ver:Nat)] [yBc p D] (.tuple #[strV q2,.bool true]) [yBc p D]:=c6
   by_cases h9:q2.length<1
   ·have q9:decide ((q2.length:Int)<1)=true:=zY zO
    rw [hno (hgp (fun p hp=>by rw [ho2] at hp;cases hp;exact h9))]
    repeat' (first|refine yAb ?_;refine xca c6' fun _=>?_|refine yWf ?_;refine yAa (yAd (r:=((i+P.length:Nat):Int)) rfl rfl zO zO) ?_|(refine yFg ?_;first|refine yAa (yAc rfl rfl q9) ?_|refine yAa (yAc rfl rfl ql) ?_)|refine xst ?_|refine xsa ?_;intro _|refine xsb ?_ ?_<;>intro _<;>try omega|refine xsc ?_|refine xdr 4 yEB ?_|refine xsd ?_ ?_|exact Rech.nil|exact xdn ()|fail)
   have q9:decide ((q2.length:Int)<1)=false:=zZ zO
   have hq2l:=hp6 q2 ho2
   have hnx2:=hnx q2 ho2
   obtain ⟨q3,hq3⟩:∃ x,q2.drop (1:Int).toNat=x:=⟨_,rfl⟩
   have hq3l:q3.length=q2.length-1:=by rw [← hq3];exact zLf
   have hT2:txt (P++[q2])=T++q3:=by rw [yVW P hPne,hT,← hq3];rfl
   repeat' (first|refine yAb ?_;refine xca c6' fun _=>?_|refine yAH ?_;refine yEb rfl rfl xS zO rfl (fun g5 c5=>?_)|refine yAQ ?_;refine yAa (yAT rfl rfl zO hq3) ?_|(refine yWf ?_;first|refine yAa (yAd (r:=((P.length+1:Nat):Int)) rfl rfl zO zO) ?_|refine yAa (yAd (r:=((i+P.length:Nat):Int)) rfl rfl zO zO) ?_)|(refine yFg ?_;first|refine yAa (yAc rfl rfl q9) ?_|refine yAa (yAc rfl rfl ql) ?_)|refine xst ?_|refine xsa ?_;intro _|refine xsb ?_ ?_<;>intro _<;>try omega|refine xsc ?_|refine xdr 4 yEB ?_|refine xsd ?_ ?_|exact Rech.nil|fail)
   refine yAp ⟨(P++[q2],T++q3,g5,c5),hnx2,hT2,by dsimp only;rw [zLa];omega,by dsimp only;rw [zLa];show ((P.length+1:Nat):Int)≤need;omega,by dsimp only;rw [zLa,zLa];show _≤240*(P.length+1);omega⟩ (by show need.toNat-(P++[q2]).length<need.toNat-P.length;rw [zLa];show need.toNat-(P.length+1)<_;omega) ?_ ?_
   ·dsimp only
    rw [zLa,zLa]
    exact xB
   ·dsimp only
    rw [zLa]
    exact (xN)
 have ql:decide ((P.length:Int)<need)=false:=zZ hlt
 have hPe:(P.length:Int)=need:=zO
 have hal:=fun s u=>@hall P hP hPe s u
 by_cases h10:(T.length:Int)=(Z:Nat)
 rotate_left
 ·rw [hno (yIE fun s u hr=>by
   obtain ⟨-,e2,e3⟩:=hal s u hr
   rw [hT] at e2
   rw [e2,e3] at h10
   exact h10 rfl)]
  repeat' (first|refine yD3 ?_;refine yAa (yA0 rfl rfl h10) ?_|refine yFg ?_;refine yAa (yAc rfl rfl ql) ?_|refine xst ?_|refine xsa ?_;intro _|refine xsb ?_ ?_<;>intro _<;>try omega|refine xsc ?_|refine xdr 4 yEB ?_|refine xsd ?_ ?_|exact Rech.nil|exact xdn ()|fail)
 have hTZ:T.length=Z:=zO
 have cp:=yQ3 (W:=W) T zO
 have hpn:=hpl T hTZ
 have hyes:=fun (hp:∀ j p,(yCK T)[j]? = some p→yCG D at_ n ver (i+j)=some p)=>yVZ (D:=D) (at_:=at_) (n:=n) (ver:=ver) (i:=i) (s:=T) zO hp zO
 have hbad:=fun (hne:P≠yCK T)=>hno (yIE fun s u hr=>by
  obtain ⟨e1,e2,-⟩:=hal s u hr
  rw [hT] at e2
  rw [e2] at hne
  exact hne e1)
 obtain ⟨Q,hQ⟩:∃ Q,Q=yCK T:=⟨_,rfl⟩
 rw [← hQ] at cp hpn hyes hbad
 clear hal hall hgap hQ
 repeat' (first|refine yAb ?_;refine xca cp fun x=>?_|refine yEf ?_;refine yAa (yEQ rfl xS) ?_|refine yD3 ?_;refine yAa (yAv rfl rfl h10) ?_|refine yFg ?_;refine yAa (yAc rfl rfl ql) ?_|refine xst ?_|refine xsa ?_;intro _|refine xsb ?_ ?_<;>intro _<;>try omega|refine xsc ?_|refine xdr 4 yEB ?_|refine xsd ?_ ?_|exact Rech.nil|fail)
 rename_i x
 obtain ⟨gw,cw⟩:=x
 dsimp only
 refine yAz (fun k:{k:Nat//(k:Int)≤need∧∀ j,j<k→P[j]? = Q[j]?}=>[(0,zPp p),(1,.int .i64 at_),(2,.int .i64 n),(3,.int .i64 (ver:Nat)),(4,.int .i64 (i:Nat)),(16,.int .i64 need),(17,.slice (some ⟨g4,0,none⟩) T.length c4),(21,.slice (some ⟨gw,0,none⟩) Q.length cw),(22,.int .i64 (k.1:Nat))])
  (fun _=>[yBc p D,yLt g4 T.length c4 T 5,yAP (.slice (some ⟨gw,0,none⟩) Q.length cw) 9 1 Q.length (Q.map strV)]++R) (fun k=>need.toNat-k.1) ⟨0,zO,fun j hj=>by omega⟩ xB (xN) (fun ⟨k,hk,hkq⟩=>?_)
 dsimp only at hk hkq ⊢
 by_cases hlt2:(k:Int)<need
 rotate_left
 ·have ql2:decide ((k:Int)<need)=false:=zZ hlt2
  have hPQ:P=Q:=by
   apply List.ext_getElem?
   intro j
   by_cases hj:j<k
   ·exact hkq j hj
   ·rw [List.getElem?_eq_none zO,List.getElem?_eq_none zO]
  have hr:=hyes (fun j p hj=>hP j p (by rw [hPQ];exact hj))
  rw [hpn] at hr
  have hres2:res=.tuple #[strV T,.int .i64 ((i:Int)+need),.bool true]:=by rw [← hres,hr];rfl
  rw [hres2]
  repeat' (first|refine yEf ?_;refine yAa (yEQ rfl xS) ?_|refine yWf ?_;refine yAa (yAd (r:=(i:Int)+need) rfl rfl rfl zO) ?_|refine yFg ?_;refine yAa (yAc rfl rfl ql2) ?_|refine xst ?_|refine xsa ?_;intro _|refine xsb ?_ ?_<;>intro _<;>try omega|refine xsc ?_|refine xdr 4 yEB ?_|refine xsd ?_ ?_|exact Rech.nil|exact xdn ()|fail)
 have ql2:decide ((k:Int)<need)=true:=zY hlt2
 have hkP:k<P.length:=zO
 obtain ⟨pk,hpk⟩:∃ q,P[k]? = some q:=⟨_,zLb hkP⟩
 obtain ⟨qk,hqk⟩:∃ q,Q[k]? = some q:=⟨_,zLb zO⟩
 have c7:=co k zO
 rw [hP k pk hpk] at c7
 have c7':CtU prog W 189 [zPp p,.int .i64 at_,.int .i64 ((i+k:Nat):Int),.int .i64 (ver:Nat)] [yBc p D] (.tuple #[strV pk,.bool true]) [yBc p D]:=c7
 have hget:(Q.map strV)[0+((k:Nat):Int).toNat*1]? = some (strV qk):=by rw [zLe,Nat.mul_one,zLq,zLE,hqk];rfl
 by_cases he:pk=qk
 ·subst he
  repeat' (first|refine yAb ?_;refine xca c7' fun _=>?_|refine yAj ?_;refine yAa (yC3 rfl xS hget) ?_|(refine yWf ?_;first|refine yAa (yAd (r:=((k+1:Nat):Int)) rfl rfl zO zO) ?_|refine yAa (yAd (r:=((i+k:Nat):Int)) rfl rfl zO zO) ?_)|refine yD3 ?_;refine yAa (yEn rfl rfl rfl) ?_|refine yFg ?_;refine yAa (yAc rfl rfl ql2) ?_|refine xst ?_|refine xsa ?_;intro _|refine xsb ?_ ?_<;>intro _<;>try omega|refine xsc ?_|refine xdr 4 yEB ?_|refine xsd ?_ ?_|exact Rech.nil|fail)
  all_goals exact yAp ⟨k+1,zO,fun j hj=>by
   by_cases h:j<k
   ·exact hkq j h
   ·obtain rfl:j=k:=by omega
    rw [hpk,hqk]⟩ (by show need.toNat-(k+1)<need.toNat-k;omega) xB (xN)
 ·rw [hbad (fun e=>by rw [e,hqk] at hpk;cases hpk;exact he rfl)]
  repeat' (first|refine yAb ?_;refine xca c7' fun _=>?_|refine yAj ?_;refine yAa (yC3 rfl xS hget) ?_|refine yWf ?_;refine yAa (yAd (r:=((i+k:Nat):Int)) rfl rfl zO zO) ?_|refine yD3 ?_;refine yAa (yEq rfl rfl he) ?_|refine yFg ?_;refine yAa (yAc rfl rfl ql2) ?_|refine xst ?_|refine xsa ?_;intro _|refine xsb ?_ ?_<;>intro _<;>try omega|refine xsc ?_|refine xdr 4 yEB ?_|refine xsd ?_ ?_|exact Rech.nil|exact xdn ()|fail)
theorem yHV (hok:D.ok) (hul:D.und.length<1073741824) (at_ n:Int) (ver:Nat) (hn:D.n≤65536) (ho:D.off=false) (h:yMJ D at_ n (ver:Nat)):Ct prog W 111 [zPp p,.int .i64 at_,.int .i64 n,.int .i64 (ver:Nat)] [yBc p D]
 (fun v:Value=>.tuple #[v,.int .i64 0]) (fun v=>[yBc p D,yAP v 9 1 (yEY D at_ n ver (n.toNat+1) 0 []).length ((yEY D at_ n ver (n.toNat+1) 0 []).map strV)]):=by
 have cm:=yTS (W:=W) (p:=p) at_ n (ver:Nat) hn h
 have cr:=fun i (hi:((i:Nat):Int)<n)=>yQ4 (W:=W) (p:=p) hok hul at_ n ver i hn ho h hi
 obtain ⟨h1,h2,h3,h4,h5,h6,h7⟩:=h
 obtain ⟨res,hres⟩:∃ res,res=yEY D at_ n ver (n.toNat+1) 0 []:=⟨_,rfl⟩
 rw [← hres]
 refine Ct.enter func111 rfl ntmps111 zW (fun R=>?_)
 apply yI4 (fun K=>KJ W 47 K [(0,zPp p),(1,.int .i64 at_),(2,.int .i64 n),(3,.int .i64 (ver:Nat))] ([yBc p D]++R))
 ·intro rest
  repeat' (first|refine yAw (id:=3) ?_;exact KJ.weak rest xB (xN)|refine yAb ?_;refine xca cm fun _=>?_|refine xst ?_|refine xsa ?_;intro _|refine xsb ?_ ?_<;>intro _<;>try omega|refine xsc ?_|fail)
 apply yI4 (fun K=>KJ W 47 K [(0,zPp p),(1,.int .i64 at_),(2,.int .i64 n),(3,.int .i64 (ver:Nat))] ([yBc p D]++R))
 ·intro rest
  refine KJ.unpack_at (F:=yCH p D) xS (fun x=>?_)
  obtain ⟨sv,wv⟩:=x
  rw [yAX,ho]
  repeat' (first|refine yAw (id:=5) ?_;exact KJ.weak rest xB (fun g q=>yDM (F:=yCH p D) (sv,wv) g (by rw [yAX,ho];exact q))|refine xst ?_|refine xsa ?_;intro _|refine xsb ?_ ?_<;>intro _<;>try omega|refine xsc ?_|fail)
 refine yOL (by first|constructor|fail) ?_
 repeat' (first|refine yFD (id:=0) ?_;fail|refine xst ?_|refine xsa ?_;intro _|refine xsb ?_ ?_<;>intro _<;>try omega|refine xsc ?_|fail)
 all_goals skip
 refine KJ.row0 (e:=9) (sz:=1) ?_
 refine yAz (fun k:{s:Nat × Nat × List (List UInt8) × Value//yEY D at_ n ver s.1 s.2.1 s.2.2.1=res∧(s.2.1:Int)≤n∧n+1≤(s.1:Int)+s.2.1∧s.2.2.1.length≤s.2.1}=>[(0,zPp p),(1,.int .i64 at_),(2,.int .i64 n),(3,.int .i64 (ver:Nat)),(10,k.1.2.2.2),(11,.int .i64 (k.1.2.1:Nat))])
  (fun k=>[yBc p D,yAP k.1.2.2.2 9 1 k.1.2.2.1.length (k.1.2.2.1.map strV)]++R) (fun k=>k.1.1) ⟨(n.toNat+1,0,[],.slice none 0 0),hres.symm,by dsimp only;omega,by dsimp only;omega,Nat.le_refl _⟩ xB (xN) (fun ⟨(f,i,acc,v),hr,hin,hfi,hal⟩=>?_)
 dsimp only at hr hin hfi hal ⊢
 obtain ⟨f',rfl⟩:∃ f',f=f'+1:=⟨f-1,zO⟩
 have hunf:yEY D at_ n ver (f'+1) i acc=match yEF D at_ n ver i with
  |none=>acc
  |some (s,u)=>yEY D at_ n ver f' (i+u.toNat) (acc++[s]):=rfl
 rw [hunf] at hr
 clear hunf
 by_cases hlt:(i:Int)<n
 rotate_left
 ·have ql:decide ((i:Int)<n)=false:=zZ hlt
  rw [yG5 (by unfold yCG;rw [if_pos zO])] at hr
  have hr2:acc=res:=hr
  subst hr2
  repeat' (first|refine yFg ?_;refine yAa (yAc rfl rfl ql) ?_|refine xst ?_|refine xsa ?_;intro _|refine xsb ?_ ?_<;>intro _<;>try omega|refine xsc ?_|fail)
  all_goals (exact xdn v)
 have ql:decide ((i:Int)<n)=true:=zY hlt
 have c2:=cr i hlt
 have hrs:=fun s u=>yFn (D:=D) (at_:=at_) (n:=n) (ver:=ver) (i:=i) (s:=s) (u:=u)
 obtain ⟨o,ho⟩:∃ o,o=yEF D at_ n ver i:=⟨_,rfl⟩
 rw [← ho] at c2 hr
 simp only [← ho] at hrs
 clear ho
 cases o with
 |none=>
  have hr2:acc=res:=hr
  subst hr2
  have c2':CtU prog W 154 [zPp p,.int .i64 at_,.int .i64 n,.int .i64 (ver:Nat),.int .i64 (i:Nat)] [yBc p D] (.tuple #[strV [],.int .i64 0,.bool false]) [yBc p D]:=c2
  repeat' (first|refine yAb ?_;refine xca c2' fun _=>?_|refine yFg ?_;refine yAa (yAc rfl rfl ql) ?_|refine xst ?_|refine xsa ?_;intro _|refine xsb ?_ ?_<;>intro _<;>try omega|refine xsc ?_|fail)
  all_goals (exact xdn v)
 |some su=>
  obtain ⟨s,u⟩:=su
  dsimp only at hr
  obtain ⟨hu1,hu2⟩:=hrs s u rfl
  obtain ⟨un,rfl⟩:∃ un:Nat,u=(un:Int):=⟨u.toNat,zO⟩
  rw [zLe] at hr
  have c2':CtU prog W 154 [zPp p,.int .i64 at_,.int .i64 n,.int .i64 (ver:Nat),.int .i64 (i:Nat)] [yBc p D] (.tuple #[strV s,.int .i64 ((i+un:Nat):Int),.bool true]) [yBc p D]:=c2
  repeat' (first|refine yAb ?_;refine xca c2' fun _=>?_|refine yAH ?_;refine yCf (a2:=0) rfl rfl (by rfl) zO xS (Src.cells (i:=1) xS xC) (by rfl) zO xO zO zO rfl rfl (fun g5 c5=>?_)|refine yAF ?_;refine yAI rfl xF (by rfl) zO rfl (fun g3=>?_)|refine yFg ?_;refine yAa (yAc rfl rfl ql) ?_|refine xst ?_|refine xsa ?_;intro _|refine xsb ?_ ?_<;>intro _<;>try omega|refine xsc ?_|fail)
  refine yAp ⟨(f',i+un,acc++[s],.slice (some ⟨g5,0,none⟩) (acc.length+1) c5),hr,by dsimp only;omega,by dsimp only;omega,by dsimp only;rw [zLa];show acc.length+1≤_;omega⟩ (by show f'<f'+1;omega) xB ?_
  have em:acc.map strV++[strV s]=(acc++[s]).map strV:=zW
  dsimp only
  rw [← em,zLa]
  exact (xN)
end
section
variable {P:Program} {W:World} {n:Nat} {k:KK} {E:Env} {H R:List SP}
theorem KJ.pack {α:Type} {tag key:Nat} {F:α→List SP} (a:α) (p:Pick (F a) H R) (h:KJ W n k E (yGU tag key F::R)):KJ W n k E H:=
 ⟨fun ac w q s=>h.go ac w q ((s.perm (p.perm.append_right _)).mono (yIt (fun g hg=>yDM a g hg) _))⟩
end
section
variable {W:World} {E:Nat→Addr} {p g:Nat} {D:Dsk}
theorem yTU (at_ n ver:Int) (hn:D.n≤65536) (ho:D.off=false) (h:yMJ D at_ n ver):Ct prog W 113 [zPp p,.int .i64 at_,.int .i64 n,.int .i64 ver] [yBc p D] (fun g:Nat=>.tuple #[zPp g,.int .i64 0]) (fun g=>[yBc p D,yAi g [zPp p,.int .i64 at_,.int .i64 n,.int .i64 ver,.int .i64 0,.bool false,.int .i64 D.life] 242]):=by
 have cm:=yTS (W:=W) (p:=p) at_ n ver hn h
 refine Ct.enter func113 rfl ntmps113 zW (fun R=>?_)
 apply yI4 (fun K=>KJ W 30 K [(0,zPp p),(1,.int .i64 at_),(2,.int .i64 n),(3,.int .i64 ver)] ([yBc p D]++R))
 ·intro rest
  repeat' (first|refine yAw (id:=3) ?_;exact KJ.weak rest xB (xN)|refine yAb ?_;refine xca cm fun _=>?_|refine xst ?_|refine xsa ?_;intro _|refine xsb ?_ ?_<;>intro _<;>try omega|refine xsc ?_|fail)
 refine KJ.unpack_at (F:=yCH p D) xS (fun x=>?_)
 obtain ⟨sv,wv⟩:=x
 rw [yAX,ho]
 repeat' (first|refine yA4 ?_;refine yA3 rfl xF rfl (fun g1=>?_)|refine yAB ?_;refine yAa (yAC xV xW) ?_|refine xst ?_|refine xsa ?_;intro _|refine xsb ?_ ?_<;>intro _<;>try omega|refine xsc ?_|fail)
 refine KJ.pack (tag:=21) (key:=p) (F:=yCH p D) (sv,wv) (by rw [yAX,ho];exact xP) ?_
 (exact xdn g1)
end
end Go.Proofs.YtlnbkbfblhofbaaGreatDoor
