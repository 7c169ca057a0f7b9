/-
  StD1, StD2, StD3, StD4.
-/
import Derived.Test.YtlnbkbfblhofbaaGreatDoorVEO
import Derived.Test.YtlnbkbfblhofbaaGreatDoorVGE
import Derived.Test.YtlnbkbfblhofbaaGreatDoorVGL
set_option maxHeartbeats 64000000
namespace Go.Proofs.YtlnbkbfblhofbaaGreatDoor
open Go Go.RowKit
open Go.Proofs.Tryz
abbrev yTV:Pl:=(.op 0 (.op 1 (.op 2 (.op 3 (.op 4 (.op 5 (.op 6 (.op 7 (.op 8 (.op 9 (.op 10 (.op 11 (.op 12 (.op 13 .nil))))))))))))))
section
variable {W:World} {p n:Nat} {D:Dsk}
instance yZL:FnIs prog 79:=⟨zK⟩
instance yYD:FnIs prog 34:=⟨zK⟩
instance yZM:FnIs prog 108:=⟨zK⟩
theorem yDC (v:Nat):CtU prog W 79 [.agg (yMU n).toArray,.int .i64 (v:Nat)] [] (.int .i64 (yAt n v:Nat)) []:=by
 obtain ⟨m,hm⟩:∃ m:Nat,((v:Nat):Int) % 2=(m:Nat):=⟨v % 2,zO⟩
 rcases (show m=0∨m=1 by omega) with rfl|rfl
 ·have e:yAt n v=2:=if_pos zO
  rw [e]
  refine Ct.enter func79 rfl ntmps79 zW (fun R=>?_)
  repeat' (first|refine yA4 ?_;refine yA3 rfl xF rfl (fun g2=>?_)|refine yYY ?_;refine yAa (yAZ rfl rfl zO hm) ?_|refine yDe ?_;refine yAa (yAf (q:=true) rfl rfl rfl) ?_|refine xst ?_|refine xsa ?_;intro _|refine xsb ?_ ?_<;>intro _<;>try omega|refine xsc ?_|exact xdn ()|fail)
 ·have e:yAt n v=2+yAu n:=if_neg zO
  rw [e]
  refine Ct.enter func79 rfl ntmps79 zW (fun R=>?_)
  repeat' (first|refine yA4 ?_;refine yA3 rfl xF rfl (fun g2=>?_)|refine yYY ?_;refine yAa (yAZ rfl rfl zO hm) ?_|refine yDe ?_;refine yAa (yAf (q:=false) rfl rfl rfl) ?_|refine xst ?_|refine xsa ?_;intro _|refine xsb ?_ ?_<;>intro _<;>try omega|refine xsc ?_|exact xdn ()|fail)
theorem yPG (h:Still D) (k:Nat) (hk:k<D.n):CtU prog W 73 [zPp p,.int .i64 (k:Nat)] [yBc p D] (.tuple #[strV (D.sec k),.int .i64 0]) [yBc p D]:=by
 have:=yJL (W:=W) (p:=p) h.ok (k:Nat) (by rw [h.und];simp)
 have h1:D.has ((k:Nat):Int)=true:=by unfold Dsk.has;exact zY zO
 have e1:D.readS (k:Nat)=D.sec k:=by unfold Dsk.readS Dsk.rd;rw [h.on,h1,h.und];rfl
 have e2:D.readE (k:Nat)=0:=by unfold Dsk.readE;rw [h.on,h1];rfl
 rw [e1,e2] at this
 exact this
theorem yB4 (h:Still D) (h2:2≤D.n):CtU prog W 34 [zPp p] [yBc p D] (.tuple #[strV (yBt D 0),.int .i64 (yBC D 0),.int .i64 (yA9 D 0:Nat)]) [yBc p D]:=by
 have hl:=h.ok.len
 obtain ⟨z1,z2,z3⟩:=yVT h h2
 have l0:(D.sec 0).length=256:=yBq _ _ _ zO
 have l1:(D.sec 1).length=256:=yBq _ _ _ zO
 have c0:CtU prog W 73 [zPp p,.int .i64 0] [yBc p D] (.tuple #[strV (D.sec 0),.int .i64 0]) [yBc p D]:=yPG h 0 zO
 have c1:CtU prog W 73 [zPp p,.int .i64 1] [yBc p D] (.tuple #[strV (D.sec 1),.int .i64 0]) [yBc p D]:=yPG h 1 zO
 have c8:=yTF (W:=W) (D.sec 0++D.sec 1) 2 (by rw [zLa];omega) zO 0
 rw [z1,z2,z3] at c8
 clear z1 z2 z3
 obtain ⟨a,ha⟩:∃ a,a=D.sec 0:=⟨_,rfl⟩
 obtain ⟨b,hb⟩:∃ b,b=D.sec 1:=⟨_,rfl⟩
 rw [← ha] at l0 c0 c8
 rw [← hb] at l1 c1 c8
 have bl:a.length+b.length≤9223372036854775807:=zO
 refine Ct.enter func34 rfl ntmps34 zW (fun R=>?_)
 repeat' (first|(refine yAb ?_;first|refine xca c8 fun _=>?_|refine xca c1 fun _=>?_|refine xca c0 fun _=>?_)|refine yWf ?_;refine yAa (yE7 (a:=a) (b:=b) rfl rfl bl) ?_|refine yD3 ?_;refine yAa (yAl (q:=false) rfl rfl rfl) ?_|refine xst ?_|refine xsa ?_;intro _|refine xsb ?_ ?_<;>intro _<;>try omega|refine xsc ?_|exact xdn ()|fail)
theorem yEC (hn:D.n=n) (h2:n≤65536) (s:List UInt8) (hs:s.length≤1000) (k:Nat) (h:yRh n (234*yAu n) s=some k) :
 CtU prog W 108 [zPp p,.agg (yMU n).toArray,strV s] [yBc p D] (.tuple #[.int .i64 (k:Nat),.bool true]) [yBc p D]:=by
 obtain ⟨e,hk⟩:=yTG h
 have hA:=yA8 h2
 subst e
 have cr:=yFx (W:=W) (n:=yAu n) zO
 have hl:(yBd n k).length=(vu n).length+(vu k).length:=by unfold yBd;rw [zLa]
 have hru1:ru ((yBd n k).drop 0)=.ok n (vu k):=by rw [zLo];exact yEJ n zO (vu k)
 have hru2:rup (234*yAu n) ((yBd n k).drop (0+(vu n).length))=.ok k []:=by
  unfold yBd rup
  rw [zLq,List.drop_left]
  have:=yEJ k zO []
  rw [zLs] at this
  rw [this]
  exact if_neg zO
 have cu:=yFC (W:=W) (s:=yBd n k) (a:=0) zO zO _ hru1
 have cp:=yEA (W:=W) (s:=yBd n k) (a:=0+(vu n).length) (234*yAu n) zO zO zO _ hru2
 have z1:rdN (.ok n (vu k))=n:=rfl
 have z2:rdE (.ok n (vu k))=0:=rfl
 have z3:rdL (.ok n (vu k))=(vu n).length:=rfl
 have y1:rdN (.ok k [])=k:=rfl
 have y2:rdE (.ok k ([]:List UInt8))=0:=rfl
 have y3:rdL (.ok k [])=(vu k).length:=rfl
 rw [z1,z2,z3] at cu
 rw [y1,y2,y3] at cp
 obtain ⟨S,hS⟩:∃ S,S=yBd n k:=⟨_,rfl⟩
 rw [← hS] at cu cp hl ⊢
 obtain ⟨a1,ha1⟩:∃ a,a=0+(vu n).length:=⟨_,rfl⟩
 obtain ⟨a2,ha2⟩:∃ a,a=a1+(vu k).length:=⟨_,rfl⟩
 rw [← ha1] at cu cp
 rw [← ha2] at cp
 have hl2:S.length=a2:=zO
 have w1:IntKind.u64.wrap ((n:Nat):Int)=((n:Nat):Int):=yAo _ zO
 have qn:decide (((n:Nat):Int)≠((n:Nat):Int))=false:=zW
 have ql:decide (((a2:Nat):Int)=((S.length:Nat):Int))=true:=zY zO
 refine yIk fun sv wv=>?_
 rw [yAX]
 refine Ct.enter func108 rfl ntmps108 zW (fun R=>?_)
 refine KJ.row_slice xS (fun sa sc e=>?_)
 subst e
 rw [hn]
 repeat' (first|refine yA4 ?_;refine yA3 rfl xF rfl (fun g4=>?_)|(refine yAb ?_;first|refine xca cp fun _=>?_|refine xca cr fun _=>?_|refine xca cu fun _=>?_)|refine yEf ?_;refine yAa (yAg rfl w1) ?_|(refine yDe ?_;first|refine yAa (yAf rfl rfl ql) ?_|refine yAa (yAf (q:=true) rfl rfl rfl) ?_)|(refine yD3 ?_;first|refine yAa (yAl rfl rfl qn) ?_|refine yAa (yAl (q:=false) rfl rfl rfl) ?_)|refine xst ?_|refine xsa ?_;intro _|refine xsb ?_ ?_<;>intro _<;>try omega|refine xsc ?_|fail)
 refine KJ.pack (tag:=21) (key:=p) (F:=yCH p D) (.slice sa n sc,wv) (by rw [yAX,hn];exact xP) ?_
 (exact xdn ())
theorem yQ5 (hn:D.n=n) (h2:n≤65536) (s:List UInt8) (hs:s.length≤1000) (h:yRh n (234*yAu n) s=none) :
 Ct prog W 108 [zPp p,.agg (yMU n).toArray,strV s] [yBc p D] (fun k:Nat=>.tuple #[.int .i64 (k:Nat),.bool false]) (fun _=>[yBc p D]):=by
 have hA:=yA8 h2
 have cr:=yFx (W:=W) (n:=yAu n) zO
 have w1:IntKind.u64.wrap ((n:Nat):Int)=((n:Nat):Int):=yAo _ zO
 have cu:=yFC (W:=W) (s:=s) (a:=0) zO zO _ rfl
 rw [zLo] at cu
 unfold yRh at h
 refine yIk fun sv wv=>?_
 rw [yAX]
 refine Ct.enter func108 rfl ntmps108 zW (fun R=>?_)
 refine KJ.row_slice xS (fun sa sc e=>?_)
 subst e
 rw [hn]
 cases hq:ru s with
 |bad e=>
  rw [hq] at cu
  have he:=yC2 hq
  have z1:rdN (.bad e)=0:=rfl
  have z2:rdE (.bad e:Rd Nat)=e:=rfl
  have z3:rdL (.bad e)=0:=rfl
  rw [z1,z2,z3] at cu
  have qe:decide (((e:Nat):Int)≠0)=true:=zY zO
  repeat' (first|refine yA4 ?_;refine yA3 rfl xF rfl (fun g4=>?_)|refine yAb ?_;refine xca cu fun _=>?_|refine yD3 ?_;refine yAa (yAl rfl rfl qe) ?_|refine xst ?_|refine xsa ?_;intro _|refine xsb ?_ ?_<;>intro _<;>try omega|refine xsc ?_|fail)
  refine KJ.pack (tag:=21) (key:=p) (F:=yCH p D) (.slice sa n sc,wv) (by rw [yAX,hn];exact xP) ?_
  exact xdn 0
 |ok m t=>
  rw [hq] at h cu
  simp only at h
  have ht:=yCX (s:=s) (a:=0) (by rw [zLo];exact hq)
  have hf:=yEc (s:=s) (a:=0) (by rw [zLo];exact hq)
  have z1:rdN (.ok m t)=m:=rfl
  have z2:rdE (.ok m t)=0:=rfl
  have z3:rdL (.ok m t)=(vu m).length:=rfl
  rw [z1,z2,z3] at cu
  obtain ⟨a1,ha1⟩:∃ x,x=0+(vu m).length:=⟨_,rfl⟩
  rw [← ha1] at cu ht hf
  rw [ht] at h
  clear ha1 z1 z2 z3 hq ht
  by_cases hmn:((m:Nat):Int)=((n:Nat):Int)
  rotate_left
  ·have qn:decide (((m:Nat):Int)≠((n:Nat):Int))=true:=zY hmn
   repeat' (first|refine yA4 ?_;refine yA3 rfl xF rfl (fun g4=>?_)|refine yAb ?_;refine xca cu fun _=>?_|refine yEf ?_;refine yAa (yAg rfl w1) ?_|(refine yD3 ?_;first|refine yAa (yAl rfl rfl qn) ?_|refine yAa (yAl (q:=false) rfl rfl rfl) ?_)|refine xst ?_|refine xsa ?_;intro _|refine xsb ?_ ?_<;>intro _<;>try omega|refine xsc ?_|fail)
   refine KJ.pack (tag:=21) (key:=p) (F:=yCH p D) (.slice sa n sc,wv) (by rw [yAX,hn];exact xP) ?_
   exact xdn 0
  have qn:decide (((m:Nat):Int)≠((n:Nat):Int))=false:=zZ (fun h=>h hmn)
  have cp:=yEA (W:=W) (s:=s) (a:=a1) (234*yAu n) zO zO zO _ rfl
  cases hq2:rup (234*yAu n) (s.drop a1) with
  |bad e=>
   rw [hq2] at cp
   have he:e≠0:=by
    unfold rup at hq2
    split at hq2
    ·rename_i hb
     cases hq2
     have:=yC2 hb
     omega
    ·split at hq2
     ·cases hq2;omega
     ·cases hq2
   have y1:rdN (.bad e)=0:=rfl
   have y2:rdE (.bad e:Rd Nat)=e:=rfl
   have y3:rdL (.bad e)=0:=rfl
   rw [y1,y2,y3] at cp
   have qe:decide (((e:Nat):Int)=0)=false:=zZ zO
   repeat' (first|refine yA4 ?_;refine yA3 rfl xF rfl (fun g4=>?_)|(refine yAb ?_;first|refine xca cp fun _=>?_|refine xca cr fun _=>?_|refine xca cu fun _=>?_)|refine yEf ?_;refine yAa (yAg rfl w1) ?_|refine yDe ?_;refine yAa (yAf rfl rfl qe) ?_|(refine yD3 ?_;first|refine yAa (yAl rfl rfl qn) ?_|refine yAa (yAl (q:=false) rfl rfl rfl) ?_)|refine xst ?_|refine xsa ?_;intro _|refine xsb ?_ ?_<;>intro _<;>try omega|refine xsc ?_|fail)
   refine KJ.pack (tag:=21) (key:=p) (F:=yCH p D) (.slice sa n sc,wv) (by rw [yAX,hn];exact xP) ?_
   exact xdn 0
  |ok k u=>
   have hq3:ru (s.drop a1)=.ok k u∧k≤234*yAu n:=by
    unfold rup at hq2
    split at hq2
    ·cases hq2
    ·rename_i n' t' hb
     split at hq2
     ·cases hq2
     ·cases hq2
      exact ⟨hb,zO⟩
   obtain ⟨hq3,hk⟩:=hq3
   rw [hq2] at cp
   rw [hq3] at h
   simp only at h
   have hu:=yCX (s:=s) (a:=a1) hq3
   have hf2:=yEc (s:=s) (a:=a1) hq3
   have y1:rdN (.ok k u)=k:=rfl
   have y2:rdE (.ok k u)=0:=rfl
   have y3:rdL (.ok k u)=(vu k).length:=rfl
   rw [y1,y2,y3] at cp
   obtain ⟨a2,ha2⟩:∃ x,x=a1+(vu k).length:=⟨_,rfl⟩
   rw [← ha2] at cp hu hf2
   clear ha2 y1 y2 y3
   have hlt:a2<s.length:=by
    rcases Nat.lt_or_ge a2 s.length with q|q
    ·exact q
    ·exfalso
     rw [if_pos ⟨hk,by rw [hu];exact List.drop_eq_nil_of_le q,zO⟩] at h
     cases h
   have ql:decide (((a2:Nat):Int)=((s.length:Nat):Int))=false:=zZ zO
   repeat' (first|refine yA4 ?_;refine yA3 rfl xF rfl (fun g4=>?_)|(refine yAb ?_;first|refine xca cp fun _=>?_|refine xca cr fun _=>?_|refine xca cu fun _=>?_)|refine yEf ?_;refine yAa (yAg rfl w1) ?_|(refine yDe ?_;first|refine yAa (yAf rfl rfl ql) ?_|refine yAa (yAf (q:=true) rfl rfl rfl) ?_)|(refine yD3 ?_;first|refine yAa (yAl rfl rfl qn) ?_|refine yAa (yAl (q:=false) rfl rfl rfl) ?_)|refine xst ?_|refine xsa ?_;intro _|refine xsb ?_ ?_<;>intro _<;>try omega|refine xsc ?_|fail)
   refine KJ.pack (tag:=21) (key:=p) (F:=yCH p D) (.slice sa n sc,wv) (by rw [yAX,hn];exact xP) ?_
   exact xdn k
end
def yWO (r:Rows) (i:Nat):List UInt8:=vu r.length++(r.take i).flatMap rowB
theorem yTW {r:Rows} {i:Nat} {p:List UInt8 × List UInt8} (h:r[i]? = some p):yWO r (i+1)=(yWO r i++tx p.1)++tx p.2:=by
 unfold yWO
 rw [List.take_add_one,h,List.flatMap_append]
 simp only [Option.toList_some,zLr,List.flatMap_nil,zLs]
 unfold rowB
 simp only [zLd]
theorem yV1 (r:Rows) (i:Nat):(yWO r i).length=yGs r i:=by unfold yWO yGs;rw [zLa]
theorem yV2 (r:Rows):yWO r r.length=yAh r:=by unfold yWO yAh;rw [List.take_length]
section
variable {W:World}
instance yZN:FnIs prog 36:=⟨zK⟩
instance yZO:FnIs prog 77:=⟨zK⟩
instance yZP:FnIs prog 110:=⟨zK⟩
theorem yHW (A:SP) (a:Option Addr) (c:Nat) (r:Rows) (hA:Lv W rC 2 A a r) (hs:(yAh r).length≤4611686018427387904) :
 CtU prog W 36 [.slice a r.length c] [A] (.int .i64 ((yAh r).length:Nat)) [A]:=by
 have hrl:=(yDk r hs).2
 have hpe:=yLG r
 have hpn:=fun i p (h:r[i]? = some p)=>yJr h
 have hrow:=fun i p (h:r[i]? = some p)=>yHc h hs
 have cu0:=yEW (W:=W) r.length zO
 have w0:IntKind.u64.wrap ((r.length:Nat):Int)=((r.length:Nat):Int):=yAo _ zO
 refine Ct.enter func36 rfl ntmps36 zW (fun R=>?_)
 repeat' (first|refine yAb ?_;refine xca cu0 fun _=>?_|refine yEf ?_;refine yAa (yAg rfl w0) ?_|refine xst ?_|refine xsa ?_;intro _|refine xsb ?_ ?_<;>intro _<;>try omega|refine xsc ?_|refine xdr 5 yTV ?_|refine xsd ?_ ?_|exact Rech.nil|fail)
 refine yAz (fun i:{i:Nat//i≤r.length}=>[(0,.slice a r.length c),(3,.int .i64 (yGs r i.1:Nat)),(4,.int .i64 (i.1:Nat))])
  (fun _=>[A]++R) (fun i=>r.length-i.1) ⟨0,zLA _⟩ xB (xN) (fun ⟨i,hi⟩=>?_)
 dsimp only
 by_cases hlt:i<r.length
 rotate_left
 ·have ql:decide ((i:Int)<(r.length:Nat))=false:=zZ zO
  obtain rfl:i=r.length:=zO
  rw [hpe]
  repeat' (first|refine yFg ?_;refine yAa (yAc rfl rfl ql) ?_|refine xst ?_|refine xsa ?_;intro _|refine xsb ?_ ?_<;>intro _<;>try omega|refine xsc ?_|refine xdr 5 yTV ?_|refine xsd ?_ ?_|exact Rech.nil|exact xdn ()|fail)
 have ql:decide ((i:Int)<(r.length:Nat))=true:=zY zO
 obtain ⟨⟨k,v⟩,hp⟩:∃ p,r[i]? = some p:=⟨_,zLb hlt⟩
 obtain ⟨t,u,-,-,h3⟩:=hrow i _ hp
 have hn:=hpn i _ hp
 dsimp only at h3 hn
 have tk:(tx k).length=(vu k.length).length+k.length:=by unfold tx;rw [zLa]
 have tv:(tx v).length=(vu v.length).length+v.length:=by unfold tx;rw [zLa]
 refine KJ.lvSome hA xS zO (fun ba oa hab=>?_)
 subst hab
 have ho0:oa+Int.toNat (i:Int)*2=oa+i*2+0:=by rw [zLe];rfl
 have ho1:oa+Int.toNat (i:Int)*2+1=oa+i*2+1:=by rw [zLe]
 have hv0:(rC (k,v))[0]? = some (strV k):=rfl
 have hv1:(rC (k,v))[1]? = some (strV v):=rfl
 have cuk:=yEW (W:=W) k.length zO
 have cuv:=yEW (W:=W) v.length zO
 have wk:IntKind.u64.wrap ((k.length:Nat):Int)=((k.length:Nat):Int):=yAo _ zO
 have wv:IntKind.u64.wrap ((v.length:Nat):Int)=((v.length:Nat):Int):=yAo _ zO
 obtain ⟨lk,hlk⟩:∃ x,x=(vu k.length).length:=⟨_,rfl⟩
 obtain ⟨lv,hlv⟩:∃ x,x=(vu v.length).length:=⟨_,rfl⟩
 obtain ⟨P0,hP0⟩:∃ x,x=yGs r i:=⟨_,rfl⟩
 obtain ⟨P4,hP4⟩:∃ x,x=yGs r (i+1):=⟨_,rfl⟩
 rw [← hP0,← hP4] at hn
 rw [← hP0] at h3 ⊢
 rw [← hlk] at tk
 rw [← hlv] at tv
 have e1:((P0:Nat):Int)+(((vu k.length).length:Nat):Int)=((P0+lk:Nat):Int):=zO
 have e2:((P0+lk:Nat):Int)+((k.length:Nat):Int)=((P0+lk+k.length:Nat):Int):=zO
 have e3:((P0+lk+k.length:Nat):Int)+(((vu v.length).length:Nat):Int)=((P0+lk+k.length+lv:Nat):Int):=zO
 have e4:((P0+lk+k.length+lv:Nat):Int)+((v.length:Nat):Int)=((P4:Nat):Int):=zO
 clear hlk hlv
 repeat' (first|(refine yAb ?_;first|refine xca cuv fun _=>?_|refine xca cuk fun _=>?_)|(refine yAj ?_;first|refine yAa (yBh yB2 hA rfl rfl xS ho1 hp hv1) ?_|refine yAa (yBh yB2 hA rfl rfl xS ho0 hp hv0) ?_)|(refine yEf ?_;first|refine yAa (yAg rfl wv) ?_|refine yAa (yAg rfl wk) ?_)|(refine yWf ?_;first|refine yAa (yAd rfl rfl e1 zO) ?_|refine yAa (yAd rfl rfl e2 zO) ?_|refine yAa (yAd rfl rfl e3 zO) ?_|refine yAa (yAd rfl rfl e4 zO) ?_|refine yAa (yAd (r:=((i+1:Nat):Int)) rfl rfl zO zO) ?_)|refine yFg ?_;refine yAa (yAc rfl rfl ql) ?_|refine xst ?_|refine xsa ?_;intro _|refine xsb ?_ ?_<;>intro _<;>try omega|refine xsc ?_|refine xdr 5 yTV ?_|refine xsd ?_ ?_|exact Rech.nil|fail)
 all_goals rw [hP4]
 all_goals refine yAp ⟨i+1,hlt⟩ (by show r.length-(i+1)<r.length-i;omega) xB (xN)
theorem yQ6 (A:SP) (a:Option Addr) (c:Nat) (r:Rows) (hA:Lv W rC 2 A a r) (hs:(yAh r).length≤1000000) :
 CtU prog W 77 [.slice a r.length c] [A] (strV (yAh r)) [A]:=by
 have hrl:=(yDk r zO).2
 have hrow:=fun i p (h:r[i]? = some p)=>yHc h zO
 have cu0:=yEW (W:=W) r.length zO
 have w0:IntKind.u64.wrap ((r.length:Nat):Int)=((r.length:Nat):Int):=yAo _ zO
 refine Ct.enter func77 rfl ntmps77 zW (fun R=>?_)
 repeat' (first|refine yAb ?_;refine xca cu0 fun _=>?_|refine yGH ?_;refine yG3 rfl rfl (fun g3 c3=>?_)|refine yEf ?_;refine yAa (yAg rfl w0) ?_|refine xst ?_|refine xsa ?_;intro _|refine xsb ?_ ?_<;>intro _<;>try omega|refine xsc ?_|fail)
 refine yAz (fun i:{i:Nat × List UInt8 × Nat × Nat//i.1≤r.length∧i.2.1=yWO r i.1}=>[(0,.slice a r.length c),(3,.slice (some ⟨i.1.2.2.1,0,none⟩) i.1.2.1.length i.1.2.2.2),(4,.int .i64 (i.1.1:Nat))])
  (fun i=>[A,yLt i.1.2.2.1 i.1.2.1.length i.1.2.2.2 i.1.2.1 5]++R) (fun i=>r.length-i.1.1) ⟨(0,vu r.length,g3,c3),zLA _,(zLs _).symm⟩ xB (xN) (fun ⟨(i,P,g,c'),hi,hP⟩=>?_)
 dsimp only at hi hP ⊢
 by_cases hlt:i<r.length
 rotate_left
 ·have ql:decide ((i:Int)<(r.length:Nat))=false:=zZ zO
  obtain rfl:i=r.length:=zO
  rw [yV2] at hP
  rw [← hP]
  repeat' (first|refine yEf ?_;refine yAa (yEQ rfl xS) ?_|refine yFg ?_;refine yAa (yAc rfl rfl ql) ?_|refine xst ?_|refine xsa ?_;intro _|refine xsb ?_ ?_<;>intro _<;>try omega|refine xsc ?_|exact xdn ()|fail)
 have ql:decide ((i:Int)<(r.length:Nat))=true:=zY zO
 obtain ⟨⟨k,v⟩,hp⟩:∃ p,r[i]? = some p:=⟨_,zLb hlt⟩
 obtain ⟨t,u,-,-,h3⟩:=hrow i _ hp
 have hnx:=yTW hp
 have hpl:=yV1 r i
 dsimp only at h3 hnx
 rw [← hP] at hnx hpl
 have tk:k.length≤(tx k).length:=by unfold tx;rw [zLa];omega
 have tv:v.length≤(tx v).length:=by unfold tx;rw [zLa];omega
 refine KJ.lvSome hA xS zO (fun ba oa hab=>?_)
 subst hab
 have ho0:oa+Int.toNat (i:Int)*2=oa+i*2+0:=by rw [zLe];rfl
 have ho1:oa+Int.toNat (i:Int)*2+1=oa+i*2+1:=by rw [zLe]
 have hv0:(rC (k,v))[0]? = some (strV k):=rfl
 have hv1:(rC (k,v))[1]? = some (strV v):=rfl
 have ctk:=yPF (W:=W) k zO
 have ctv:=yPF (W:=W) v zO
 have m2:(P++tx k).length=P.length+(tx k).length:=zLa
 have m3:((P++tx k)++tx v).length=P.length+(tx k).length+(tx v).length:=by rw [zLa,zLa]
 clear hrow
 repeat' (first|(refine yAb ?_;first|refine xca ctv fun _=>?_|refine xca ctk fun _=>?_)|(refine yAH ?_;first|refine yEb (l:=P++tx k) rfl rfl xS zO rfl (fun g6 c6=>?_)|refine yEb (l:=P) rfl rfl xS zO rfl (fun g5 c5=>?_))|(refine yAj ?_;first|refine yAa (yBh yB2 hA rfl rfl xS ho1 hp hv1) ?_|refine yAa (yBh yB2 hA rfl rfl xS ho0 hp hv0) ?_)|refine yWf ?_;refine yAa (yAd (r:=((i+1:Nat):Int)) rfl rfl zO zO) ?_|refine yFg ?_;refine yAa (yAc rfl rfl ql) ?_|refine xst ?_|refine xsa ?_;intro _|refine xsb ?_ ?_<;>intro _<;>try omega|refine xsc ?_|fail)
 all_goals rw [← m3]
 all_goals refine yAp ⟨(i+1,(P++tx k)++tx v,_,_),hlt,hnx.symm⟩ (by show r.length-(i+1)<r.length-i;omega) xB (xN)
end
section
variable {W:World}
abbrev yBL (x:Option Addr × Nat) (l:Rows):SP:=lsP rC 62 2 (.slice x.1 l.length x.2) l
theorem yHX (s:List UInt8) (hl:s.length≤1000000) (r:Rows) (h:yF0 s=some r) :
 Ct prog W 110 [strV s] [] (fun x:Option Addr × Nat=>.tuple #[.slice x.1 r.length x.2,.bool true]) (fun x=>[yBL x r]):=by
 obtain ⟨e,hris⟩:=yPA h
 subst e
 have hrow:=fun i p (h:r[i]? = some p)=>yHc h zO
 obtain ⟨hh1,hh2⟩:=yDk r zO
 have hp0:yGs r 0=0+(vu r.length).length:=by rw [yMT];omega
 have hpe:=yLG r
 have hpn:=fun i p (h:r[i]? = some p)=>yJr h
 have hv2:(vu r.length).length≤(yAh r).length:=by unfold yAh;rw [zLa];omega
 obtain ⟨S,hS⟩:∃ S,S=yAh r:=⟨_,rfl⟩
 rw [← hS] at hl hrow hh1 hh2 hpe hv2 ⊢
 clear hS h
 have cu:=yFC (W:=W) (s:=S) (a:=0) zO zO _ hh1
 have z1:rdN (.ok r.length (r.flatMap rowB))=r.length:=rfl
 have z2:rdE (.ok r.length (r.flatMap rowB))=0:=rfl
 have z3:rdL (.ok r.length (r.flatMap rowB))=(vu r.length).length:=rfl
 rw [z1,z2,z3,← hp0] at cu
 have w0:IntKind.u64.wrap ((S.length:Nat):Int)=((S.length:Nat):Int):=yAo _ zO
 have w1:IntKind.i64.wrap ((r.length:Nat):Int)=((r.length:Nat):Int):=yCF _ zO
 have qg:decide (((S.length:Nat):Int)<((r.length:Nat):Int))=false:=zZ zO
 have qe:decide (((S.length:Nat):Int)=((S.length:Nat):Int))=true:=zY rfl
 refine Ct.enter func110 rfl ntmps110 zW (fun R=>?_)
 refine KJ.nilrow 62 2 ?_
 repeat' (first|refine yAb ?_;refine xca cu fun _=>?_|refine yEf ?_;refine yAa (yAg rfl w0) ?_|refine yD3 ?_;refine yAa (yAl (q:=false) rfl rfl rfl) ?_|refine yF5 ?_;refine yAa (yAe rfl rfl qg) ?_|refine xst ?_|refine xsa ?_;intro _|refine xsb ?_ ?_<;>intro _<;>try omega|refine xsc ?_|fail)
 refine yAz (fun x:{x:Nat × Rows × Option Addr × Nat//x.1≤r.length∧x.2.1=r.take x.1}=>[(0,strV S),(4,.int .u64 (r.length:Nat)),(5,.int .i64 (yGs r x.1.1:Nat)),(7,.slice x.1.2.2.1 x.1.2.1.length x.1.2.2.2),(8,.int .i64 (x.1.1:Nat))])
  (fun x=>[lsP rC 62 2 (.slice x.1.2.2.1 x.1.2.1.length x.1.2.2.2) x.1.2.1]++R) (fun x=>r.length-x.1.1) ⟨(0,[],none,0),zLA _,rfl⟩ xB (xN) (fun ⟨(i,T,xa,xc),hi,hT⟩=>?_)
 dsimp only at hi hT ⊢
 by_cases hlt:i<r.length
 rotate_left
 ·have ql:decide ((i:Int)<(r.length:Nat))=false:=zZ zO
  obtain rfl:i=r.length:=zO
  rw [List.take_length] at hT
  subst hT
  rw [hpe]
  repeat' (first|refine yEf ?_;refine yAa (yAg rfl w1) ?_|refine yDe ?_;refine yAa (yAf rfl rfl qe) ?_|refine yFg ?_;refine yAa (yAc rfl rfl ql) ?_|refine xst ?_|refine xsa ?_;intro _|refine xsb ?_ ?_<;>intro _<;>try omega|refine xsc ?_|fail)
  all_goals (exact xdn (xa,xc))
 have ql:decide ((i:Int)<(r.length:Nat))=true:=zY zO
 obtain ⟨p,hp⟩:∃ p,r[i]? = some p:=⟨_,zLb hlt⟩
 obtain ⟨t,u,h1,h2,h3⟩:=hrow i p hp
 have hn:=hpn i p hp
 have hTl:T.length=i:=by rw [hT,zLg];omega
 have hTn:T++[p]=r.take (i+1):=by rw [List.take_add_one,hp,hT];rfl
 have hless:∀ y,T[i-1]? = some y→0<i→Op.bytesLess y.1 p.1=true:=fun y hy h0=>by
  obtain ⟨j,rfl⟩:∃ j,i=j+1:=⟨i-1,zO⟩
  rw [hT,Nat.add_sub_cancel,List.getElem?_take_of_lt zO] at hy
  exact yPp hris hy hp
 obtain ⟨k,v⟩:=p
 dsimp only at h1 h2 h3 hn hTn hless
 have cx1:=yHn (W:=W) (s:=S) (a:=yGs r i) S.length zO zO zO _ h1
 have cx2:=yHn (W:=W) (s:=S) (a:=yGs r i+(tx k).length) S.length zO zO zO _ h2
 have y1:rdS (.ok k t)=k:=rfl
 have y2:rdE (.ok k t)=0:=rfl
 have y3:rdT (.ok k t)=(tx k).length:=rfl
 have y4:rdS (.ok v u)=v:=rfl
 have y5:rdE (.ok v u)=0:=rfl
 have y6:rdT (.ok v u)=(tx v).length:=rfl
 rw [y1,y2,y3] at cx1
 rw [y4,y5,y6,← hn] at cx2
 obtain ⟨P0,hP0⟩:∃ x,x=yGs r i:=⟨_,rfl⟩
 obtain ⟨P1,hP1⟩:∃ x,x=P0+(tx k).length:=⟨_,rfl⟩
 rw [← hP0] at cx1 cx2 ⊢
 rw [← hP1] at cx1 cx2
 clear h1 h2 h3 hn hrow hpn y1 y2 y3 y4 y5 y6 hP0 hP1
 have m1:(T.length+1)*32≤140737488355328:=zO
 have m2:T.length+1≤9223372036854775807:=zO
 have hTnl:(T++[(k,v)]).length=T.length+1:=zW
 by_cases h0:i=0
 ·have q0:decide ((0:Int)<((i:Nat):Int))=false:=zZ zO
  repeat' (first|(refine yAb ?_;first|refine xca cx2 fun _=>?_|refine xca cx1 fun _=>?_)|refine yAH ?_;refine yBV (l:=T) (a:=(k,v)) yB2 rfl rfl rfl xS xS m1 m2 rfl (fun g' c'=>?_)|refine yAF ?_;refine yAI rfl xF (by rfl) zO rfl (fun gb=>?_);show KJ W _ _ _ (yAi gb (rC (k,v)) 62::_)|refine yEf ?_;refine yAa (yAg rfl w1) ?_|refine yAB ?_;refine yAa (yAC xV xW) ?_|refine yWf ?_;refine yAa (yAd (r:=((i+1:Nat):Int)) rfl rfl zO zO) ?_|refine yD3 ?_;refine yAa (yAl (q:=false) rfl rfl rfl) ?_|refine yFg ?_;refine yAa (yAc rfl rfl ql) ?_|refine yF5 ?_;refine yAa (yAe rfl rfl q0) ?_|refine xst ?_|refine xsa ?_;intro _|refine xsb ?_ ?_<;>intro _<;>try omega|refine xsc ?_|fail)
  all_goals refine yAp ⟨(i+1,T++[(k,v)],_,_),hlt,hTn⟩ (by show r.length-(i+1)<r.length-i;omega) xB (xN)
 ·have q0:decide ((0:Int)<((i:Nat):Int))=true:=zY zO
  obtain ⟨y,hy⟩:∃ y,T[i-1]? = some y:=⟨_,zLb zO⟩
  have hl0:=hless y hy zO
  have hsub:Go.RowKit.wrap64 (((i:Nat):Int)-1)=((i-1:Nat):Int):=by unfold Go.RowKit.wrap64;omega
  have hv0:(rC y)[0]? = some (strV y.1):=rfl
  have hle:(Op.bytesLess k y.1 || decide (k=y.1))=false:=by
   have hne:decide (k=y.1)=false:=zZ (fun e=>by rw [e,yDg] at hl0;cases hl0)
   rw [yFi hl0,hne];rfl
  refine KJ.lsSome xS zO (fun gT hgT=>?_)
  subst hgT
  have hof:0+Int.toNat ((i-1:Nat):Int)*2+0=(i-1)*2+0:=by rw [zLe];omega
  have hTl2:i-1<T.length:=zO
  repeat' (first|(refine yAb ?_;first|refine xca cx2 fun _=>?_|refine xca cx1 fun _=>?_)|refine yAH ?_;refine yBV (l:=T) (a:=(k,v)) yB2 rfl rfl rfl xS xS m1 m2 rfl (fun g' c'=>?_)|refine yAF ?_;refine yAI rfl xF (by rfl) zO rfl (fun gb=>?_);show KJ W _ _ _ (yAi gb (rC (k,v)) 62::_)|refine yAj ?_;refine yAa (yC7 yB2 rfl xS rfl hof hy hv0) ?_|refine yEf ?_;refine yAa (yAg rfl w1) ?_|refine yAB ?_;refine yAa (yAC xV xW) ?_|refine yWf ?_;refine yAa (yAd (r:=((i+1:Nat):Int)) rfl rfl zO zO) ?_|refine yYX ?_;refine yAa (yIB rfl rfl hsub) ?_|refine yD3 ?_;refine yAa (yAl (q:=false) rfl rfl rfl) ?_|refine yFg ?_;refine yAa (yAc rfl rfl ql) ?_|refine yMe ?_;refine yAa (yBb rfl rfl hle) ?_|refine yF5 ?_;refine yAa (yAe rfl rfl q0) ?_|refine xst ?_|refine xsa ?_;intro _|refine xsb ?_ ?_<;>intro _<;>try omega|refine xsc ?_|fail)
  all_goals refine yAp ⟨(i+1,T++[(k,v)],_,_),hlt,hTn⟩ (by show r.length-(i+1)<r.length-i;omega) xB (xN)
end
section
variable {W:World}
theorem yQ7 (s:List UInt8) (hl:s.length≤1000000) (h:yF0 s=none) :
 Ct prog W 110 [strV s] [] (fun x:Option Addr × Nat × Nat=>.tuple #[.slice x.1 x.2.1 x.2.2,.bool false]) (fun _=>[]):=by
 have w0:IntKind.u64.wrap ((s.length:Nat):Int)=((s.length:Nat):Int):=yAo _ zO
 have cu:=yFC (W:=W) (s:=s) (a:=0) zO zO _ rfl
 rw [zLo] at cu
 unfold yF0 at h
 cases hq:ru s with
 |bad e=>
  rw [hq] at cu
  have he:=yC2 hq
  have z1:rdN (.bad e)=0:=rfl
  have z2:rdE (.bad e:Rd Nat)=e:=rfl
  have z3:rdL (.bad e)=0:=rfl
  rw [z1,z2,z3] at cu
  have qe:decide (((e:Nat):Int)≠0)=true:=zY zO
  refine Ct.enter func110 rfl ntmps110 zW (fun R=>?_)
  repeat' (first|refine yAb ?_;refine xca cu fun _=>?_|refine yD3 ?_;refine yAa (yAl rfl rfl qe) ?_|refine xst ?_|refine xsa ?_;intro _|refine xsb ?_ ?_<;>intro _<;>try omega|refine xsc ?_|fail)
  all_goals (exact xdn (none,0,0))
 |ok n t=>
  rw [hq] at h cu
  simp only at h
  have ht:=yCX (s:=s) (a:=0) (by rw [zLo];exact hq)
  have hf:=yEc (s:=s) (a:=0) (by rw [zLo];exact hq)
  have hn64:=(yGO hq).2
  have z1:rdN (.ok n t)=n:=rfl
  have z2:rdE (.ok n t)=0:=rfl
  have z3:rdL (.ok n t)=(vu n).length:=rfl
  rw [z1,z2,z3] at cu
  obtain ⟨a0,ha0⟩:∃ x,x=0+(vu n).length:=⟨_,rfl⟩
  rw [← ha0] at cu ht hf
  clear ha0 z1 z2 z3 hq
  by_cases hns:n≤s.length
  rotate_left
  ·have qg:decide (((s.length:Nat):Int)<((n:Nat):Int))=true:=zY zO
   refine Ct.enter func110 rfl ntmps110 zW (fun R=>?_)
   repeat' (first|refine yAb ?_;refine xca cu fun _=>?_|refine yEf ?_;refine yAa (yAg rfl w0) ?_|refine yD3 ?_;refine yAa (yAl (q:=false) rfl rfl rfl) ?_|refine yF5 ?_;refine yAa (yAe rfl rfl qg) ?_|refine xst ?_|refine xsa ?_;intro _|refine xsb ?_ ?_<;>intro _<;>try omega|refine xsc ?_|fail)
   all_goals (exact xdn (none,0,0))
  rw [if_pos hns,ht] at h
  have qg:decide (((s.length:Nat):Int)<((n:Nat):Int))=false:=zZ zO
  have w1:IntKind.i64.wrap ((n:Nat):Int)=((n:Nat):Int):=yCF _ zO
  refine Ct.enter func110 rfl ntmps110 zW (fun R=>?_)
  refine KJ.nilrow 62 2 ?_
  repeat' (first|refine yAb ?_;refine xca cu fun _=>?_|refine yEf ?_;refine yAa (yAg rfl w0) ?_|refine yD3 ?_;refine yAa (yAl (q:=false) rfl rfl rfl) ?_|refine yF5 ?_;refine yAa (yAe rfl rfl qg) ?_|refine xst ?_|refine xsa ?_;intro _|refine xsb ?_ ?_<;>intro _<;>try omega|refine xsc ?_|fail)
  refine yAz (fun x:{x:Nat × Nat × List UInt8 × Rows × Option Addr × Nat//x.1≤n∧x.2.1≤s.length∧x.2.2.2.1.length=x.1∧(∀ y,x.2.2.2.1[x.1-1]? = some y→y.1=x.2.2.1)∧yM6 s.length (n-x.1) (decide (x.1=0)) x.2.2.1 (s.drop x.2.1)=none}=>[(0,strV s),(4,.int .u64 (n:Nat)),(5,.int .i64 (x.1.2.1:Nat)),(7,.slice x.1.2.2.2.2.1 x.1.2.2.2.1.length x.1.2.2.2.2.2),(8,.int .i64 (x.1.1:Nat))])
   (fun x=>[lsP rC 62 2 (.slice x.1.2.2.2.2.1 x.1.2.2.2.1.length x.1.2.2.2.2.2) x.1.2.2.2.1]++R) (fun x=>n-x.1.1) ⟨(0,a0,[],[],none,0),zLA _,hf,rfl,fun y hy=>by simp at hy,h⟩ xB (xN) (fun ⟨(i,a,last,T,xa,xc),hi,ha,hTl,hlast,hgo⟩=>?_)
  dsimp only at hi ha hTl hlast hgo ⊢
  clear h hf cu ht
  by_cases hlt:i<n
  rotate_left
  ·have ql:decide ((i:Int)<(n:Nat))=false:=zZ zO
   obtain rfl:i=n:=zO
   rw [Nat.sub_self] at hgo
   have hlt:a<s.length:=by
    unfold yM6 at hgo
    split at hgo
    ·cases hgo
    ·rename_i hne
     rcases Nat.lt_or_ge a s.length with h|h
     ·exact h
     ·exact absurd (List.drop_eq_nil_of_le h) hne
   have qe:decide (((a:Nat):Int)=((s.length:Nat):Int))=false:=zZ zO
   repeat' (first|refine yEf ?_;refine yAa (yAg rfl w1) ?_|refine yDe ?_;refine yAa (yAf rfl rfl qe) ?_|refine yFg ?_;refine yAa (yAc rfl rfl ql) ?_|refine xst ?_|refine xsa ?_;intro _|refine xsb ?_ ?_<;>intro _<;>try omega|refine xsc ?_|fail)
   all_goals (exact xdn (xa,T.length,xc))
  have ql:decide ((i:Int)<(n:Nat))=true:=zY zO
  obtain ⟨k,hk⟩:∃ k,n-i=k+1:=⟨n-i-1,zO⟩
  rw [hk] at hgo
  have hk':k=n-(i+1):=zO
  unfold yM6 at hgo
  have cx1:=yHn (W:=W) (s:=s) (a:=a) s.length zO zO zO _ rfl
  cases h1:rtx s.length (s.drop a) with
  |bad e=>
   rw [h1] at cx1
   have he:=yEj h1
   have z1:rdS (.bad e)=[]:=rfl
   have z2:rdE (.bad e:Rd (List UInt8))=e:=rfl
   have z3:rdT (.bad e)=0:=rfl
   rw [z1,z2,z3] at cx1
   have qe:decide (((e:Nat):Int)≠0)=true:=zY zO
   repeat' (first|refine yAb ?_;refine xca cx1 fun _=>?_|refine yEf ?_;refine yAa (yAg rfl w1) ?_|refine yD3 ?_;refine yAa (yAl rfl rfl qe) ?_|refine yFg ?_;refine yAa (yAc rfl rfl ql) ?_|refine xst ?_|refine xsa ?_;intro _|refine xsb ?_ ?_<;>intro _<;>try omega|refine xsc ?_|fail)
   all_goals (exact xdn (none,0,0))
  |ok key t1=>
   rw [h1] at hgo cx1
   simp only at hgo
   have ht1:=yDy h1
   have hf1:=yES h1
   have z1:rdS (.ok key t1)=key:=rfl
   have z2:rdE (.ok key t1)=0:=rfl
   have z3:rdT (.ok key t1)=(tx key).length:=rfl
   rw [z1,z2,z3] at cx1
   obtain ⟨a1,ha1⟩:∃ x,x=a+(tx key).length:=⟨_,rfl⟩
   rw [← ha1] at cx1 ht1 hf1
   rw [ht1] at hgo
   clear ha1 z1 z2 z3 ht1 h1
   have cx2:=yHn (W:=W) (s:=s) (a:=a1) s.length zO zO zO _ rfl
   by_cases h0:i=0
   ·have q0:decide ((0:Int)<((i:Nat):Int))=false:=zZ zO
    cases h2:rtx s.length (s.drop a1) with
    |bad e=>
     rw [h2] at cx2
     have he:=yEj h2
     have z1:rdS (.bad e)=[]:=rfl
     have z2:rdE (.bad e:Rd (List UInt8))=e:=rfl
     have z3:rdT (.bad e)=0:=rfl
     rw [z1,z2,z3] at cx2
     have qe:decide (((e:Nat):Int)≠0)=true:=zY zO
     repeat' (first|(refine yAb ?_;first|refine xca cx2 fun _=>?_|refine xca cx1 fun _=>?_)|refine yEf ?_;refine yAa (yAg rfl w1) ?_|(refine yD3 ?_;first|refine yAa (yAl rfl rfl qe) ?_|refine yAa (yAl (q:=false) rfl rfl rfl) ?_)|refine yFg ?_;refine yAa (yAc rfl rfl ql) ?_|refine yF5 ?_;refine yAa (yAe rfl rfl q0) ?_|refine xst ?_|refine xsa ?_;intro _|refine xsb ?_ ?_<;>intro _<;>try omega|refine xsc ?_|fail)
     all_goals (exact xdn (none,0,0))
    |ok val t2=>
     rw [h2] at hgo cx2
     simp only at hgo
     have ht2:=yDy h2
     have hf2:=yES h2
     have z1:rdS (.ok val t2)=val:=rfl
     have z2:rdE (.ok val t2)=0:=rfl
     have z3:rdT (.ok val t2)=(tx val).length:=rfl
     rw [z1,z2,z3] at cx2
     obtain ⟨a2,ha2⟩:∃ x,x=a1+(tx val).length:=⟨_,rfl⟩
     rw [← ha2] at cx2 ht2 hf2
     rw [ht2,if_pos (.inl (zY h0))] at hgo
     clear ha2 z1 z2 z3 ht2 h2
     have hg2:yM6 s.length (n-(i+1)) (decide (i+1=0)) key (s.drop a2)=none:=by
      rw [← hk',zZ zO]
      split at hgo
      ·assumption
      ·cases hgo
     have m1:(T.length+1)*32≤140737488355328:=zO
     have m2:T.length+1≤9223372036854775807:=zO
     have hTnl:(T++[(key,val)]).length=i+1:=by rw [zLa,hTl];rfl
     have hlast2:∀ y,(T++[(key,val)])[i+1-1]? = some y→y.1=key:=fun y hy=>by
      rw [Nat.add_sub_cancel,← hTl,zLn (Nat.le_refl _),Nat.sub_self] at hy
      cases hy;rfl
     repeat' (first|(refine yAb ?_;first|refine xca cx2 fun _=>?_|refine xca cx1 fun _=>?_)|refine yAH ?_;refine yBV (l:=T) (a:=(key,val)) yB2 rfl rfl rfl xS xS m1 m2 rfl (fun g' c'=>?_)|refine yAF ?_;refine yAI rfl xF (by rfl) zO rfl (fun gb=>?_);show KJ W _ _ _ (yAi gb (rC (key,val)) 62::_)|refine yEf ?_;refine yAa (yAg rfl w1) ?_|refine yAB ?_;refine yAa (yAC xV xW) ?_|refine yWf ?_;refine yAa (yAd (r:=((i+1:Nat):Int)) rfl rfl zO zO) ?_|refine yD3 ?_;refine yAa (yAl (q:=false) rfl rfl rfl) ?_|refine yFg ?_;refine yAa (yAc rfl rfl ql) ?_|refine yF5 ?_;refine yAa (yAe rfl rfl q0) ?_|refine xst ?_|refine xsa ?_;intro _|refine xsb ?_ ?_<;>intro _<;>try omega|refine xsc ?_|fail)
     all_goals refine yAp ⟨(i+1,a2,key,T++[(key,val)],_,_),hlt,hf2,hTnl,hlast2,hg2⟩ (by show n-(i+1)<n-i;omega) xB (xN)
   have q0:decide ((0:Int)<((i:Nat):Int))=true:=zY zO
   obtain ⟨y,hy⟩:∃ y,T[i-1]? = some y:=⟨_,zLb zO⟩
   have hy1:=hlast y hy
   have hsub:Go.RowKit.wrap64 (((i:Nat):Int)-1)=((i-1:Nat):Int):=by unfold Go.RowKit.wrap64;omega
   have hv0:(rC y)[0]? = some (strV y.1):=rfl
   obtain ⟨qb,hqb⟩:∃ qb,(Op.bytesLess key y.1 || decide (key=y.1))=qb:=⟨_,rfl⟩
   have hqb2:qb=!(Op.bytesLess last key):=by
    rw [← hqb,hy1]
    cases hll:Op.bytesLess last key with
    |true=>
     have hne:decide (key=last)=false:=zZ (fun e=>by rw [e,yDg] at hll;cases hll)
     rw [yFi hll,hne];rfl
    |false=>
     by_cases hkl:key=last
     ·rw [zY hkl];simp
     ·rw [yIW hll (fun e=>hkl e.symm)];rfl
   refine KJ.lsSome xS zO (fun gT hgT=>?_)
   subst hgT
   have hof:0+Int.toNat ((i-1:Nat):Int)*2+0=(i-1)*2+0:=by rw [zLe];omega
   have hTl2:i-1<T.length:=zO
   cases qb with
   |true=>
    repeat' (first|refine yAb ?_;refine xca cx1 fun _=>?_|refine yAj ?_;refine yAa (yC7 yB2 rfl xS rfl hof hy hv0) ?_|refine yEf ?_;refine yAa (yAg rfl w1) ?_|refine yYX ?_;refine yAa (yIB rfl rfl hsub) ?_|refine yD3 ?_;refine yAa (yAl (q:=false) rfl rfl rfl) ?_|refine yFg ?_;refine yAa (yAc rfl rfl ql) ?_|refine yMe ?_;refine yAa (yBb rfl rfl hqb) ?_|refine yF5 ?_;refine yAa (yAe rfl rfl q0) ?_|refine xst ?_|refine xsa ?_;intro _|refine xsb ?_ ?_<;>intro _<;>try omega|refine xsc ?_|fail)
    all_goals (exact xdn (none,0,0))
   |false=>
    have hll:Op.bytesLess last key=true:=by
     cases h9:Op.bytesLess last key with
     |true=>rfl
     |false=>rw [h9] at hqb2;cases hqb2
    cases h2:rtx s.length (s.drop a1) with
    |bad e=>
     rw [h2] at cx2
     have he:=yEj h2
     have z1:rdS (.bad e)=[]:=rfl
     have z2:rdE (.bad e:Rd (List UInt8))=e:=rfl
     have z3:rdT (.bad e)=0:=rfl
     rw [z1,z2,z3] at cx2
     have qe:decide (((e:Nat):Int)≠0)=true:=zY zO
     repeat' (first|(refine yAb ?_;first|refine xca cx2 fun _=>?_|refine xca cx1 fun _=>?_)|refine yAj ?_;refine yAa (yC7 yB2 rfl xS rfl hof hy hv0) ?_|refine yEf ?_;refine yAa (yAg rfl w1) ?_|refine yYX ?_;refine yAa (yIB rfl rfl hsub) ?_|(refine yD3 ?_;first|refine yAa (yAl rfl rfl qe) ?_|refine yAa (yAl (q:=false) rfl rfl rfl) ?_)|refine yFg ?_;refine yAa (yAc rfl rfl ql) ?_|refine yMe ?_;refine yAa (yBb rfl rfl hqb) ?_|refine yF5 ?_;refine yAa (yAe rfl rfl q0) ?_|refine xst ?_|refine xsa ?_;intro _|refine xsb ?_ ?_<;>intro _<;>try omega|refine xsc ?_|fail)
     all_goals (exact xdn (none,0,0))
    |ok val t2=>
     rw [h2] at hgo cx2
     simp only at hgo
     have ht2:=yDy h2
     have hf2:=yES h2
     have z1:rdS (.ok val t2)=val:=rfl
     have z2:rdE (.ok val t2)=0:=rfl
     have z3:rdT (.ok val t2)=(tx val).length:=rfl
     rw [z1,z2,z3] at cx2
     obtain ⟨a2,ha2⟩:∃ x,x=a1+(tx val).length:=⟨_,rfl⟩
     rw [← ha2] at cx2 ht2 hf2
     rw [ht2,if_pos (.inr hll)] at hgo
     clear ha2 z1 z2 z3 ht2 h2
     have hg2:yM6 s.length (n-(i+1)) (decide (i+1=0)) key (s.drop a2)=none:=by
      rw [← hk',zZ zO]
      split at hgo
      ·assumption
      ·cases hgo
     have m1:(T.length+1)*32≤140737488355328:=zO
     have m2:T.length+1≤9223372036854775807:=zO
     have hTnl:(T++[(key,val)]).length=i+1:=by rw [zLa,hTl];rfl
     have hlast2:∀ y,(T++[(key,val)])[i+1-1]? = some y→y.1=key:=fun y hy=>by
      rw [Nat.add_sub_cancel,← hTl,zLn (Nat.le_refl _),Nat.sub_self] at hy
      cases hy;rfl
     repeat' (first|(refine yAb ?_;first|refine xca cx2 fun _=>?_|refine xca cx1 fun _=>?_)|refine yAH ?_;refine yBV (l:=T) (a:=(key,val)) yB2 rfl rfl rfl xS xS m1 m2 rfl (fun g' c'=>?_)|refine yAF ?_;refine yAI rfl xF (by rfl) zO rfl (fun gb=>?_);show KJ W _ _ _ (yAi gb (rC (key,val)) 62::_)|refine yAj ?_;refine yAa (yC7 yB2 rfl xS rfl hof hy hv0) ?_|refine yEf ?_;refine yAa (yAg rfl w1) ?_|refine yAB ?_;refine yAa (yAC xV xW) ?_|refine yWf ?_;refine yAa (yAd (r:=((i+1:Nat):Int)) rfl rfl zO zO) ?_|refine yYX ?_;refine yAa (yIB rfl rfl hsub) ?_|refine yD3 ?_;refine yAa (yAl (q:=false) rfl rfl rfl) ?_|refine yFg ?_;refine yAa (yAc rfl rfl ql) ?_|refine yMe ?_;refine yAa (yBb rfl rfl hqb) ?_|refine yF5 ?_;refine yAa (yAe rfl rfl q0) ?_|refine xst ?_|refine xsa ?_;intro _|refine xsb ?_ ?_<;>intro _<;>try omega|refine xsc ?_|fail)
     all_goals refine yAp ⟨(i+1,a2,key,T++[(key,val)],_,_),hlt,hf2,hTnl,hlast2,hg2⟩ (by show n-(i+1)<n-i;omega) xB (xN)
end
end Go.Proofs.YtlnbkbfblhofbaaGreatDoor
