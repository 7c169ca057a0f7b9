/-
  StD5, StD6, StD7, StD8.
-/
import Derived.Test.YtlnbkbfblhofbaaGreatDoorVGW
import Derived.Test.YtlnbkbfblhofbaaGreatDoorVHH
import Derived.Test.YtlnbkbfblhofbaaGreatDoorVHL
set_option maxHeartbeats 64000000
namespace Go.Proofs.YtlnbkbfblhofbaaGreatDoor
open Go Go.RowKit
open Go.Proofs.Tryz
abbrev yEe:Pl:=(.op 0 (.op 1 (.op 2 (.op 3 (.op 4 (.op 5 (.op 6 (.op 7 (.op 8 (.ef 9 [] (.op 10 .nil)))))))))))
abbrev yT8:Pl:=(.op 0 (.op 1 (.op 2 (.op 4 (.op 5 (.op 6 (.op 7 (.op 8 (.ef 3 [8,7,6,5,4,0] (.ef 9 [] (.op 10 .nil)))))))))))
abbrev yKH:Pl:=(.op 0 (.op 1 (.op 2 (.op 4 (.op 5 (.op 6 (.op 7 (.op 8 (.ef 3 [8,7,6,5,4,0] (.ef 9 [] (.op 10 (.op 11 (.op 12 (.op 13 (.op 14 .nil)))))))))))))))
abbrev yEE:Pl:=(.op 0 (.op 2 (.op 3 (.ef 1 [3,2] (.ef 4 [] (.op 5 .nil))))))
abbrev yJP:Pl:=(.op 0 (.op 1 (.op 2 (.op 3 (.op 4 (.op 5 (.op 6 (.op 7 (.op 8 (.ef 9 [] (.op 10 (.op 11 (.op 12 (.op 13 (.op 14 .nil)))))))))))))))
abbrev yHr:Pl:=(.op 0 (.op 1 (.op 2 (.op 3 (.op 4 (.op 5 .nil))))))
abbrev yT9:Pl:=(.op 0 (.op 1 (.op 2 (.op 3 (.op 4 (.op 5 (.op 6 (.op 7 (.op 8 (.op 9 (.op 10 (.op 11 (.op 12 (.op 13 (.op 14 (.op 15 (.op 16 (.ef 17 [] (.op 18 .nil)))))))))))))))))))
abbrev yUa:Pl:=(.op 0 (.op 1 (.op 2 (.op 3 (.op 4 (.op 5 (.op 6 (.op 7 (.op 8 (.op 9 (.op 10 (.op 11 (.op 12 (.op 13 (.op 14 (.op 15 (.op 16 (.op 17 (.ef 18 [] (.op 19 (.op 20 (.op 21 (.op 22 (.op 23 .nil))))))))))))))))))))))))
section
variable {W:World} {p n:Nat} {D:Dsk} {r:Rows}
instance yZU:FnIs prog 38:=⟨zK⟩
theorem yKI (A:SP) (a:Option Addr) (c:Nat) (hA:Lv W rC 2 A a r) (h1:64≤n) (h2:n≤65536) (hst:Still D) (hn:D.n=n) (v w:Nat) (hw:w=v+1) (hv:w≤1099511627776) (hroom:(yAh r).length≤234*yAu n) (hbig:(yAh r).length≤1000000) :
 CtU prog W 38 [zPp p,.agg (yMU n).toArray,.slice a r.length c,.int .i64 (w:Nat)] [A,yBc p D] (.int .i64 (yCk D n v r:Nat)) [A,yBc p (yBx D n v r)]:=by
 subst hw
 obtain ⟨w,hw⟩:∃ w,w=v+1:=⟨_,rfl⟩
 have hlA:yAu n≤65536:=by unfold yAu;omega
 obtain ⟨f1,f2,f3,f4⟩:=yAO h1 (v+1)
 obtain ⟨a1,a2,a3,a4,a5⟩:=yFE hst (yAt n (v+1)) (yAu n) (v+1) (yAh r) zO zO hroom hlA
 have hh2:(yBd n (yAh r).length).length≤234:=Nat.le_trans (yB3 _ _) zO
 have hA2:(yA7 D (yAt n (v+1)) (yAu n) ((v+1:Nat):Int) (yAh r)).2=yCl D n (v+1) r:=rfl
 have cs:=yQ6 (W:=W) A a c r hA hbig
 have car:=yDC (W:=W) (n:=n) (v+1)
 have caw:=yQX (W:=W) (p:=p) (D:=D) hst.ok (by rw [hst.und];simp) (yAt n (v+1):Nat) (yAu n:Nat) (v+1) zO (yAh r)
 have wv:IntKind.u64.wrap ((v+1:Nat):Int)=((v+1:Nat):Int):=yAo _ zO
 rw [hA2] at a2 a3 a5 caw
 rcases a1 with ⟨e0,s0,-,-⟩|⟨e0,o1,-⟩
 rotate_left
 ·have eE:yCk D n v r=12:=by unfold yCk;rw [if_pos (by rw [e0];simp),e0]
  have eW:yBx D n v r=yCl D n (v+1) r:=by unfold yBx;rw [if_pos (by rw [e0];simp)]
  rw [eE,eW]
  rw [e0] at caw
  obtain ⟨S,hS⟩:∃ S,S=yAh r:=⟨_,rfl⟩
  obtain ⟨D1,hD1⟩:∃ D1,D1=yCl D n (v+1) r:=⟨_,rfl⟩
  rw [← hS] at cs caw
  rw [← hD1] at caw ⊢
  clear hS hD1 eE eW
  refine Ct.enter func38 rfl ntmps38 zW (fun R=>?_)
  repeat' (first|refine yA4 ?_;refine yA3 rfl xF rfl (fun g5=>?_)|(refine yAb ?_;first|refine xca caw fun _=>?_|refine xca cs fun _=>?_)|refine yEf ?_;refine yAa (yAg rfl wv) ?_|refine yD3 ?_;refine yAa (yAl (q:=true) rfl rfl rfl) ?_|refine yBP ?_;(refine yA5 (X:=Unit) xE car xP rfl ?_)|refine xst ?_|refine xsa ?_;intro _|refine xsb ?_ ?_<;>intro _<;>try omega|refine xsc ?_|refine xdr 2 yEe ?_|refine xsd ?_ ?_|exact Rech.nil|exact xdn ()|fail)
 have eE:yCk D n v r=yBu (yCl D n (v+1) r) 0 ((v+1:Nat):Int) (yBd n (yAh r).length):=by unfold yCk;rw [if_neg (by rw [e0];simp)]
 have eW:yBx D n v r=yDU D n (v+1) r:=by unfold yBx;rw [if_neg (by rw [e0];simp)]
 have hD:yA6 (yCl D n (v+1) r) ((0:Nat):Int) ((v+1:Nat):Int) (yBd n (yAh r).length)=yDU D n (v+1) r:=rfl
 rw [hA2] at s0
 rw [e0] at caw
 obtain ⟨D1,hD1⟩:∃ D1,D1=yCl D n (v+1) r:=⟨_,rfl⟩
 rw [← hD1] at caw s0 a2 a3 a5 eE hD
 clear hD1
 obtain ⟨m,hm⟩:∃ m:Nat,((v+1:Nat):Int) % 2=(m:Nat):=⟨(v+1) % 2,zO⟩
 have hroomB:D1.roomB ((0:Nat):Int)=true:=by unfold Dsk.roomB;exact zY zO
 have hmay:yCg D1 ((0:Nat):Int) ((v+1:Nat):Int)=true:=by
  unfold yCg;rw [hroomB,zY (show (1:Int)≤((v+1:Nat):Int) by omega),zY (show ((v+1:Nat):Int)≤1099511627776 by omega)];rfl
 have hi:(((0:Nat):Int)+((v+1:Nat):Int) % 2)=(m:Nat):=zO
 obtain ⟨hd,hhd⟩:∃ hd,hd=yBd n (yAh r).length:=⟨_,rfl⟩
 rw [← hhd] at eE hD hh2
 obtain ⟨raw,hraw⟩:∃ raw,raw=yAx ((v+1:Nat):Int) hd:=⟨_,rfl⟩
 have eS:yBu D1 ((0:Nat):Int) ((v+1:Nat):Int) hd=if D1.writeE (m:Nat) raw≠0 then D1.writeE (m:Nat) raw else (D1.writeD (m:Nat) raw).flushE:=by
  unfold yBu yCV
  rw [if_neg (by rw [hmay];simp),if_neg zO,hi,← hraw]
 have eT:yA6 D1 ((0:Nat):Int) ((v+1:Nat):Int) hd=if D1.writeE (m:Nat) raw≠0 then D1.writeD (m:Nat) raw else (D1.writeD (m:Nat) raw).flushD:=by
  unfold yA6 yCV
  rw [if_neg (by rw [hmay];simp),if_neg zO,hi,← hraw]
 have eE:yCk D n v r=if D1.writeE (m:Nat) raw≠0 then D1.writeE (m:Nat) raw else (D1.writeD (m:Nat) raw).flushE:=by rw [← eS];exact eE
 rw [eE,eW,← hD,eT]
 clear eE eW hD eS eT
 have csl:=yLQ (W:=W) (v+1) zO zO hd hh2
 rw [← hraw] at csl
 have cu1:=yEW (W:=W) n zO
 have cu2:=yEW (W:=W) (yAh r).length zO
 have w1:IntKind.u64.wrap ((n:Nat):Int)=((n:Nat):Int):=yAo _ zO
 have w2:IntKind.u64.wrap (((yAh r).length:Nat):Int)=(((yAh r).length:Nat):Int):=yAo _ zO
 have hhd2:vu n++vu (yAh r).length=hd:=by rw [hhd];rfl
 have bl:(vu n).length+(vu (yAh r).length).length≤9223372036854775807:=by have:=yBO n;have:=yBO (yAh r).length;omega
 have hund1:D1.und.length<1073741824:=by rw [s0.und];simp
 have cw:=yNa (W:=W) (p:=p) (D:=D1) s0.ok (m:Nat) raw hund1
 have hok2:=Dsk.writeD_ok s0.ok (m:Nat) raw
 have hund2:(D1.writeD (m:Nat) raw).und.length<1073741824:=by have:=yEp D1 (m:Nat) raw;rw [s0.und] at this;simp at this;omega
 have cfl:=yNb (W:=W) (p:=p) (D:=D1.writeD (m:Nat) raw) hok2 hund2
 obtain ⟨D2,hD2⟩:∃ D2,D2=D1.writeD (m:Nat) raw:=⟨_,rfl⟩
 obtain ⟨we,hwe⟩:∃ we,we=D1.writeE (m:Nat) raw:=⟨_,rfl⟩
 rw [← hD2,← hwe]
 rw [← hD2,← hwe] at cw
 rw [← hD2] at cfl
 obtain ⟨D3,hD3⟩:∃ D3,D3=D2.flushD:=⟨_,rfl⟩
 obtain ⟨fe,hfe⟩:∃ fe,fe=D2.flushE:=⟨_,rfl⟩
 rw [← hD3,← hfe]
 rw [← hD3,← hfe] at cfl
 have hn1:D1.n=n:=by rw [a2,hn]
 have hD1off:=s0.on
 have bl2:(yAh r).length≤1000000:=hbig
 obtain ⟨S,hS⟩:∃ S,S=yAh r:=⟨_,rfl⟩
 rw [← hS] at cs caw cu2 w2 hhd2 bl
 clear hS hD2 hwe hD3 hfe hhd hraw hmay hroomB hi hst a3 a5 f1 f2 f3 f4 a4
 refine Ct.enter func38 rfl ntmps38 zW (fun R=>?_)
 repeat' (first|refine yAw (id:=5) ?_;refine yCO ?_|refine yA4 ?_;refine yA3 rfl xF rfl (fun g5=>?_)|(refine yAb ?_;first|refine xca caw fun _=>?_|refine xca cs fun _=>?_)|refine yEf ?_;refine yAa (yAg rfl wv) ?_|refine yD3 ?_;refine yAa (yAl (q:=false) rfl rfl rfl) ?_|refine yBP ?_;(refine yA5 (X:=Unit) xE car xP rfl ?_)|refine xst ?_|refine xsa ?_;intro _|refine xsb ?_ ?_<;>intro _<;>try omega|refine xsc ?_|refine xdr 2 yEe ?_|refine xsd ?_ ?_|exact Rech.nil|fail)
 refine Hold.mk ?_
 refine KJ.unpack_at (F:=yCH p D1) xS (fun x=>?_)
 obtain ⟨sv,wv2⟩:=x
 rw [yAX,hn1]
 refine KJ.row_slice xS (fun sa sc e=>?_)
 subst e
 repeat' (first|refine yAw (id:=8) ?_;refine yCO ?_|(refine yAb ?_;first|refine xca csl fun _=>?_|refine xca cu2 fun _=>?_|refine xca cu1 fun _=>?_)|(refine yEf ?_;first|refine yAa (yAg rfl w2) ?_|refine yAa (yAg rfl w1) ?_|refine yAa (yAg rfl wv) ?_)|refine yWf ?_;refine yAa ((hhd2 ▸ yE7 (a:=vu n) (b:=vu S.length) rfl rfl bl)) ?_|refine yD3 ?_;refine yAa (yAl (q:=false) rfl rfl rfl) ?_|refine xst ?_|refine xsa ?_;intro _|refine xsb ?_ ?_<;>intro _<;>try omega|refine xsc ?_|refine xdr 2 yT8 ?_|refine xsd ?_ ?_|exact Rech.nil|fail)
 refine Hold.mk ?_
 refine KJ.pack (tag:=21) (key:=p) (F:=yCH p D1) (.slice sa n sc,wv2) (by rw [yAX,hn1];exact xP) ?_
 by_cases h0:we=0
 ·subst h0
  rw [if_neg zW,if_neg zW]
  repeat' (first|(refine yAb ?_;first|refine xca cfl fun _=>?_|refine xca cw fun _=>?_)|refine yYY ?_;refine yAa (yAZ rfl rfl zO hm) ?_|refine yD3 ?_;refine yAa (yAl (q:=false) rfl rfl rfl) ?_|refine xst ?_|refine xsa ?_;intro _|refine xsb ?_ ?_<;>intro _<;>try omega|refine xsc ?_|refine xdr 2 yT8 ?_|refine xsd ?_ ?_|exact Rech.nil|exact xdn ()|fail)
 ·have q0:decide (((we:Nat):Int)≠0)=true:=zY zO
  rw [if_pos h0,if_pos h0]
  repeat' (first|refine yAb ?_;refine xca cw fun _=>?_|refine yYY ?_;refine yAa (yAZ rfl rfl zO hm) ?_|refine yD3 ?_;refine yAa (yAl rfl rfl q0) ?_|refine xst ?_|refine xsa ?_;intro _|refine xsb ?_ ?_<;>intro _<;>try omega|refine xsc ?_|refine xdr 2 yT8 ?_|refine xsd ?_ ?_|exact Rech.nil|exact xdn ()|fail)
end
theorem yJQ {n room k:Nat} (hn:n<2 ^ 64) (hk:k<2 ^ 64) (h:k≤room):yRh n room (yBd n k)=some k:=by
 unfold yRh yBd
 rw [yEJ n hn (vu k)]
 have:=yEJ k hk []
 rw [zLs] at this
 simp only [this]
 rw [if_pos ⟨h,trivial,trivial⟩]
theorem yYx {most:Nat}:∀ (r:Rows) (fst:Bool) (last:List UInt8),RisR r→(fst=false→∀ p ∈ r,Op.bytesLess last p.1=true)→(∀ p ∈ r,p.1.length≤most∧p.2.length≤most)→most<2 ^ 64→yM6 most r.length fst last (r.flatMap rowB)=some r:=by
 intro r
 induction r with
 |nil=>intro fst last _ _ _ _;rfl
 |cons p r ih=>
  intro fst last hr hf hl hm
  obtain ⟨k,v⟩:=p
  obtain ⟨l1,l2⟩:=hl (k,v) (List.mem_cons_self ..)
  dsimp only at l1 l2
  have hr2:=List.pairwise_cons.1 hr
  have e:((k,v)::r).flatMap rowB=tx k++(tx v++r.flatMap rowB):=by
   rw [zLr]
   unfold rowB
   rw [zLd]
  rw [e,zLj]
  unfold yM6
  rw [yO1 most k _ l1 zO]
  simp only
  rw [yO1 most v _ l2 zO]
  simp only
  have hc:fst=true∨Op.bytesLess last k=true:=by
   cases fst with
   |true=>exact .inl rfl
   |false=>exact .inr (hf rfl _ (List.mem_cons_self ..))
  rw [if_pos hc,ih false k hr2.2 (fun _ q hq=>hr2.1 q hq) (fun q hq=>hl q (List.mem_cons_of_mem _ hq)) hm]
theorem yLW {r:Rows} (hr:RisR r) (hl:(yAh r).length≤1000000):yF0 (yAh r)=some r:=by
 have h1:=yCB r
 have h2:(yAh r).length=(vu r.length).length+(r.flatMap rowB).length:=by unfold yAh;rw [zLa]
 have hp:∀ p ∈ r,p.1.length≤(yAh r).length∧p.2.length≤(yAh r).length:=fun p hp=>by
  obtain ⟨i,hi,he⟩:=List.mem_iff_getElem.1 hp
  obtain ⟨t,u,-,-,h3⟩:=yHc (r:=r) (i:=i) (p:=p) (by rw [zLb hi,he]) zO
  have tk:p.1.length≤(tx p.1).length:=by unfold tx;rw [zLa];omega
  have tv:p.2.length≤(tx p.2).length:=by unfold tx;rw [zLa];omega
  omega
 unfold yF0
 have e:ru (yAh r)=.ok r.length (r.flatMap rowB):=yEJ _ zO _
 rw [e]
 simp only
 rw [if_pos zO]
 exact yYx r true [] hr (fun h=>by cases h) hp zO
theorem Ct.rowSl0 {P:Program} {W:World} {f:FuncId} {args:List Value} {Hpre:List SP} {A:SP} {e size m:Nat} {xs:List Value} (h:Ct P W f args Hpre (fun v:Value=>.tuple #[v,.int .i64 0]) (fun v=>[A,yAP v e size m xs])) :
 Ct P W f args Hpre (fun x:Option Addr × Nat=>.tuple #[.slice x.1 m x.2,.int .i64 0]) (fun x=>[A,yAP (.slice x.1 m x.2) e size m xs]):=
 ⟨fun R w s=>(h.go R w s).mono fun en w' ⟨v,he,st⟩=>by
  have hrow:=St.row (v:=v) (e:=e) (size:=size) (n:=m) (xs:=xs) st (.there .here)
  rcases hrow.2 with ⟨hv,q⟩|⟨g,cap,cur,hv,_⟩
  ·subst hv
   subst q
   exact ⟨(none,0),he,st⟩
  ·subst hv
   exact ⟨(some ⟨g,0,none⟩,cap),he,st⟩⟩
section
variable {W:World} {p n:Nat} {D:Dsk} {r:Rows}
instance yZV:FnIs prog 52:=⟨zK⟩
theorem yUb (h1:64≤n) (h2:n≤3000) (hst:Still D) (hn:D.n=n) (e:Nat) (h:yA9 D 0=e) (hne:e≠0):CtU prog W 52 [zPp p,.agg (yMU n).toArray] [yBc p D] (.tuple #[.slice none 0 0,.int .i64 0,.int .i64 ((e:Nat))]) [yBc p D]:=by
 have csl:=yB4 (W:=W) (p:=p) hst zO
 rw [h] at csl
 have qe:decide (((e:Nat):Int)≠0)=true:=zY zO
 refine Ct.enter func52 rfl ntmps52 zW (fun R=>?_)
 repeat' (first|refine yA4 ?_;refine yA3 rfl xF rfl (fun g3=>?_)|refine yAb ?_;refine xca csl fun _=>?_|refine yD3 ?_;refine yAa (yAl rfl rfl qe) ?_|refine xst ?_|refine xsa ?_;intro _|refine xsb ?_ ?_<;>intro _<;>try omega|refine xsc ?_|refine xdr 7 yKH ?_|refine xdr 21 yEE ?_|refine xsd ?_ ?_|exact Rech.nil|exact xdn ()|fail)
theorem yUc (h1:64≤n) (h2:n≤3000) (hst:Still D) (hn:D.n=n) (h:yA9 D 0=0) (hh:yRh n (234*yAu n) (yBt D 0)=none):CtU prog W 52 [zPp p,.agg (yMU n).toArray] [yBc p D] (.tuple #[.slice none 0 0,.int .i64 0,.int .i64 (15)]) [yBc p D]:=by
 have csl:=yB4 (W:=W) (p:=p) hst zO
 rw [h] at csl
 have hsl:=yM7 D 0
 have cso:=yQ5 (W:=W) (p:=p) (D:=D) hn zO (yBt D 0) zO hh
 refine Ct.enter func52 rfl ntmps52 zW (fun R=>?_)
 repeat' (first|refine yA4 ?_;refine yA3 rfl xF rfl (fun g3=>?_)|(refine yAb ?_;first|refine xca cso fun k=>?_|refine xca csl fun _=>?_)|refine yD3 ?_;refine yAa (yAl (q:=false) rfl rfl rfl) ?_|refine xst ?_|refine xsa ?_;intro _|refine xsb ?_ ?_<;>intro _<;>try omega|refine xsc ?_|refine xdr 7 yKH ?_|refine xdr 21 yEE ?_|refine xsd ?_ ?_|exact Rech.nil|exact xdn ()|fail)
theorem yUd (h1:64≤n) (h2:n≤3000) (hst:Still D) (hn:D.n=n) (v L:Nat) (hv:1≤v∧v≤1099511627776) (hL:L≤234*yAu n) (g1:yA9 D 0=0) (g2:yBC D 0=v) (g3:yBt D 0=yBd n L) (g4:yBH D (yAt n v) (yAu n) v L=([],15)):CtU prog W 52 [zPp p,.agg (yMU n).toArray] [yBc p D] (.tuple #[.slice none 0 0,.int .i64 0,.int .i64 (15)]) [yBc p D]:=by
 have csl:=yB4 (W:=W) (p:=p) hst zO
 obtain ⟨f1,f2,f3,f4⟩:=yAO h1 v
 have hA:=yA8 (n:=n) zO
 have hhl:=yB3 n L
 have cso:=yEC (W:=W) (p:=p) (D:=D) hn zO (yBd n L) zO L (yJQ zO zO hL)
 rw [g1,g2,g3] at csl
 have car:=yDC (W:=W) (n:=n) v
 have wv:IntKind.u64.wrap ((v:Nat):Int)=((v:Nat):Int):=yAo _ zO
 have crd:=yFB (W:=W) (p:=p) (D:=D) hst.ok (by rw [hst.und];simp) (yAt n v:Nat) (yAu n:Nat) v zO (L:Nat)
 rw [g4] at crd
 obtain ⟨hd,hhd⟩:∃ hd,hd=yBd n L:=⟨_,rfl⟩
 rw [← hhd] at cso csl
 clear hhd hhl g1 g2 g3 g4
 refine Ct.enter func52 rfl ntmps52 zW (fun R=>?_)
 repeat' (first|refine yA4 ?_;refine yA3 rfl xF rfl (fun g3=>?_)|(refine yAb ?_;first|refine xca crd fun _=>?_|refine xca cso fun _=>?_|refine xca csl fun _=>?_)|refine yEf ?_;refine yAa (yAg rfl wv) ?_|(refine yD3 ?_;first|refine yAa (yAl (q:=true) rfl rfl rfl) ?_|refine yAa (yAl (q:=false) rfl rfl rfl) ?_)|refine yBP ?_;(refine yA5 (X:=Unit) xE car xP rfl ?_)|refine xst ?_|refine xsa ?_;intro _|refine xsb ?_ ?_<;>intro _<;>try omega|refine xsc ?_|refine xdr 7 yJP ?_|refine xdr 21 yHr ?_|refine xsd ?_ ?_|exact Rech.nil|exact xdn ()|fail)
theorem yUe (h1:64≤n) (h2:n≤3000) (hst:Still D) (hn:D.n=n) (v L:Nat) (hv:1≤v∧v≤1099511627776) (hL:L≤234*yAu n) (g1:yA9 D 0=0) (g2:yBC D 0=v) (g3:yBt D 0=yBd n L) (t:List UInt8) (ht:t.length≤1000000) (hr:yF0 t=none) (g4:yBH D (yAt n v) (yAu n) v L=(t,0)):CtU prog W 52 [zPp p,.agg (yMU n).toArray] [yBc p D] (.tuple #[.slice none 0 0,.int .i64 0,.int .i64 (15)]) [yBc p D]:=by
 have csl:=yB4 (W:=W) (p:=p) hst zO
 obtain ⟨f1,f2,f3,f4⟩:=yAO h1 v
 have hA:=yA8 (n:=n) zO
 have hhl:=yB3 n L
 have cso:=yEC (W:=W) (p:=p) (D:=D) hn zO (yBd n L) zO L (yJQ zO zO hL)
 rw [g1,g2,g3] at csl
 have car:=yDC (W:=W) (n:=n) v
 have wv:IntKind.u64.wrap ((v:Nat):Int)=((v:Nat):Int):=yAo _ zO
 have crd:=yFB (W:=W) (p:=p) (D:=D) hst.ok (by rw [hst.und];simp) (yAt n v:Nat) (yAu n:Nat) v zO (L:Nat)
 rw [g4] at crd
 obtain ⟨hd,hhd⟩:∃ hd,hd=yBd n L:=⟨_,rfl⟩
 rw [← hhd] at cso csl
 clear hhd hhl g1 g2 g3 g4
 have cro:=yQ7 (W:=W) t ht hr
 refine Ct.enter func52 rfl ntmps52 zW (fun R=>?_)
 repeat' (first|refine yA4 ?_;refine yA3 rfl xF rfl (fun g3=>?_)|(refine yAb ?_;first|refine xca cro fun x=>?_|refine xca crd fun _=>?_|refine xca cso fun _=>?_|refine xca csl fun _=>?_)|refine yEf ?_;refine yAa (yAg rfl wv) ?_|refine yD3 ?_;refine yAa (yAl (q:=false) rfl rfl rfl) ?_|refine yBP ?_;(refine yA5 (X:=Unit) xE car xP rfl ?_)|refine xst ?_|refine xsa ?_;intro _|refine xsb ?_ ?_<;>intro _<;>try omega|refine xsc ?_|refine xdr 7 yJP ?_|refine xdr 21 yHr ?_|refine xsd ?_ ?_|exact Rech.nil|exact xdn ()|fail)
theorem yUf (h1:64≤n) (h2:n≤3000) (hst:Still D) (hn:D.n=n) (v:Nat) {r0:Rows} (hr:RisR r0) (hv:1≤v∧v≤1099511627776) (hL:(yAh r0).length≤234*yAu n) (g1:yA9 D 0=0) (g2:yBC D 0=v) (g3:yBt D 0=yBd n (yAh r0).length) (g4:yBH D (yAt n v) (yAu n) v (yAh r0).length=(yAh r0,0)) (recs:List (List UInt8)) (g5:yEY D (yAK n:Nat) (yA2 n:Nat) v ((((yA2 n:Nat):Int).toNat)+1) 0 []=recs) (i0:Nat) (hi0:i0<recs.length) (hb:∀ x,recs[i0]? = some x→(yAE x).2≠0) (hg:∀ j x,j<i0→recs[j]? = some x→(yAE x).2=0):CtU prog W 52 [zPp p,.agg (yMU n).toArray] [yBc p D] (.tuple #[.slice none 0 0,.int .i64 0,.int .i64 (15)]) [yBc p D]:=by
 have csl:=yB4 (W:=W) (p:=p) hst zO
 have hA0:yAu n≤1000:=by unfold yAu;omega
 have hsr:yF0 (yAh r0)=some r0:=yLW hr zO
 have hlN:yA2 n≤3000:=by unfold yA2;omega
 obtain ⟨l1,l2⟩:=yHk (D:=D) (at_:=(yAK n:Nat)) (n:=(yA2 n:Nat)) (ver:=v) (((yA2 n:Nat):Int).toNat+1) 0 [] 0 (fun x hx=>by cases hx) (Nat.le_refl _)
 rw [g5] at l1 l2
 have hrl2:∀ i,i≤recs.length→(lgR r0 recs i).length≤15335424+i*15269888:=by
  intro i
  induction i with
  |zero=>intro _;show r0.length≤_;have:=yCB r0;have h9:(yAh r0).length=(vu r0.length).length+(r0.flatMap rowB).length:=(by unfold yAh;rw [zLa]);omega
  |succ i ih=>
   intro hi
   obtain ⟨x,hx⟩:∃ x,recs[i]? = some x:=⟨_,zLb zO⟩
   have h1:=yCp (yAE x).1 (lgR r0 recs i)
   have h2:=yDn x
   have h3:=l1 x (zLk hx)
   have h4:=ih zO
   rw [yCa r0 hx,zLH]
   omega
 have hrl2:∀ i,i≤recs.length→(lgR r0 recs i).length≤100000000000:=fun i hi=>by
  have h3:=hrl2 i hi
  have:i*15269888≤3001*15269888:=zLt _ zO
  omega
 have cre:=yHX (W:=W) (yAh r0) zO r0 hsr
 have hdn:=fun i=>yPJ hr recs i
 obtain ⟨L,hLL⟩:∃ L,L=(yAh r0).length:=⟨_,rfl⟩
 rw [← hLL] at hL g3 g4
 obtain ⟨f1,f2,f3,f4⟩:=yAO h1 v
 have hA:=yA8 (n:=n) zO
 have hhl:=yB3 n L
 have cso:=yEC (W:=W) (p:=p) (D:=D) hn zO (yBd n L) zO L (yJQ zO zO hL)
 rw [g1,g2,g3] at csl
 have car:=yDC (W:=W) (n:=n) v
 have wv:IntKind.u64.wrap ((v:Nat):Int)=((v:Nat):Int):=yAo _ zO
 have crd:=yFB (W:=W) (p:=p) (D:=D) hst.ok (by rw [hst.und];simp) (yAt n v:Nat) (yAu n:Nat) v zO (L:Nat)
 rw [g4] at crd
 obtain ⟨hd,hhd⟩:∃ hd,hd=yBd n L:=⟨_,rfl⟩
 rw [← hhd] at cso csl
 clear hhd hhl g1 g2 g3 g4
 have crp:Ct prog W 111 [zPp p,.int .i64 (yAK n:Nat),.int .i64 (yA2 n:Nat),.int .i64 (v:Nat)] [yBc p D] (fun x:Option Addr × Nat=>.tuple #[.slice x.1 recs.length x.2,.int .i64 0]) (fun x=>[yBc p D,lsP lrcC 9 1 (.slice x.1 recs.length x.2) recs]):=by
  have h:=yHV (W:=W) (p:=p) (D:=D) hst.ok (by rw [hst.und];simp) (yAK n:Nat) (yA2 n:Nat) v zO hst.on ⟨zO,zO,zO,zO,zO,zO,zO⟩
  rw [g5,yEy] at h
  exact Ct.rowSl0 h
 obtain ⟨S,hS⟩:∃ S,S=yAh r0:=⟨_,rfl⟩
 rw [← hS] at cre crd
 clear g5
 refine Ct.enter func52 rfl ntmps52 zW (fun R=>?_)
 repeat' (first|refine yA4 ?_;refine yA3 rfl xF rfl (fun g3=>?_)|(refine yAb ?_;first|refine xca crp fun x=>?_;obtain ⟨xa,xc⟩:=x|refine xca cre fun x=>?_;obtain ⟨ra,rc⟩:=x|refine xca crd fun _=>?_|refine xca cso fun _=>?_|refine xca csl fun _=>?_)|refine yEf ?_;refine yAa (yAg rfl wv) ?_|refine yD3 ?_;refine yAa (yAl (q:=false) rfl rfl rfl) ?_|refine yBP ?_;(refine yA5 (X:=Unit) xE car xP rfl ?_)|refine xst ?_|refine xsa ?_;intro _|refine xsb ?_ ?_<;>intro _<;>try omega|refine xsc ?_|refine xdr 7 yJP ?_|refine xdr 21 yHr ?_|refine xsd ?_ ?_|exact Rech.nil|fail)
 have hLv:Lv W lrcC 1 (lsP lrcC 9 1 (.slice xa recs.length xc) recs) xa recs:=Lv.own yCZ rfl
 refine yAz (fun x:{x:Nat × Rows × Option Addr × Nat//x.1≤i0∧x.2.1=lgR r0 recs x.1}=>[(0,zPp p),(3,zPp g3),(8,.int .i64 (v:Nat)),(13,.slice x.1.2.2.1 x.1.2.1.length x.1.2.2.2),(14,.slice xa recs.length xc),(16,.int .i64 (x.1.1:Nat))])
  (fun x=>[yBc p D,yAi g3 (yMU n) 46,yBL (x.1.2.2.1,x.1.2.2.2) x.1.2.1,lsP lrcC 9 1 (.slice xa recs.length xc) recs]++R) (fun x=>recs.length-x.1.1) ⟨(0,r0,ra,rc),zLA _,rfl⟩ xB (xN) (fun ⟨(i,T,ta,tc),hi,hT⟩=>?_)
 dsimp only at hi hT ⊢
 by_cases hlt:i<i0
 ·have hii:i<recs.length:=by omega
  have ql:decide ((i:Int)<(recs.length:Nat))=true:=zY zO
  obtain ⟨x,hx0⟩:∃ s,recs[i]? = some s:=⟨_,zLb zO⟩
  refine KJ.lvSome hLv xS zO (fun b0 of hab=>?_)
  subst hab
  have hoff:of+Int.toNat (i:Int)*1=of+i*1+0:=zW
  have hv0:(lrcC x)[0]? = some (strV x):=rfl
  have hxl:=l1 x (zLk hx0)
  have cde:=yFX (W:=W) x zO
  have hdx:=hg i x hlt hx0
  rw [hdx] at cde
  have hnx:=yCa r0 hx0
  have hll:=hrl2 i zO
  have hdl2:=yDn x
  have hTr:RisR T:=by rw [hT];exact hdn i
  have hTl:T.length≤100000000000:=by rw [hT];exact hll
  have cba:=fun ya yc=>yHh (W:=W) (yBL (ta,tc) T) _ ta ya tc yc T (yAE x).1 (Lv.own (e:=62) (c:=tc) yB2 rfl) (Lv.own (e:=60) (c:=yc) yBy rfl) hTr zO
  have hT2:yAJ T (yAE x).1=lgR r0 recs (i+1):=by rw [hT,hnx]
  obtain ⟨os,hos⟩:∃ os,os=(yAE x).1:=⟨_,rfl⟩
  rw [← hos] at cde cba hT2
  obtain ⟨T2,hT3⟩:∃ T2,T2=yAJ T os:=⟨_,rfl⟩
  rw [← hT3] at hT2
  simp only [← hT3] at cba
  repeat' (first|(refine yAb ?_;first|refine xca (cba _ _) fun y=>?_;obtain ⟨za,zc⟩:=y|refine xca cde fun y=>?_;obtain ⟨ya,yc⟩:=y)|refine yAj ?_;refine yAa (yBh yCZ hLv rfl rfl xS hoff hx0 hv0) ?_|refine yWf ?_;refine yAa (yAd (r:=((i+1:Nat):Int)) rfl rfl zO zO) ?_|refine yD3 ?_;refine yAa (yAl (q:=false) rfl rfl rfl) ?_|refine yFg ?_;refine yAa (yAc rfl rfl ql) ?_|refine xst ?_|refine xsa ?_;intro _|refine xsb ?_ ?_<;>intro _<;>try omega|refine xsc ?_|refine xdr 7 yKH ?_|refine xdr 21 yEE ?_|refine xsd ?_ ?_|exact Rech.nil|fail)
  all_goals refine yAp ⟨(i+1,T2,_,_),by dsimp only;omega,hT2⟩ (by show recs.length-(i+1)<recs.length-i;omega) xB (xN)
 ·obtain rfl:i=i0:=by omega
  have ql:decide ((i:Int)<(recs.length:Nat))=true:=zY zO
  obtain ⟨x,hx0⟩:∃ s,recs[i]? = some s:=⟨_,zLb zO⟩
  refine KJ.lvSome hLv xS zO (fun b0 of hab=>?_)
  subst hab
  have hoff:of+Int.toNat (i:Int)*1=of+i*1+0:=zW
  have hv0:(lrcC x)[0]? = some (strV x):=rfl
  have hxl:=l1 x (zLk hx0)
  have cde:=yFX (W:=W) x zO
  have hdx:=hb x hx0
  have qe:decide ((((yAE x).2:Nat):Int)≠0)=true:=zY zO
  repeat' (first|refine yAb ?_;refine xca cde fun y=>?_;obtain ⟨ya,yc⟩:=y|refine yAj ?_;refine yAa (yBh yCZ hLv rfl rfl xS hoff hx0 hv0) ?_|refine yD3 ?_;refine yAa (yAl rfl rfl qe) ?_|refine yFg ?_;refine yAa (yAc rfl rfl ql) ?_|refine xst ?_|refine xsa ?_;intro _|refine xsb ?_ ?_<;>intro _<;>try omega|refine xsc ?_|refine xdr 7 yKH ?_|refine xdr 21 yEE ?_|refine xsd ?_ ?_|exact Rech.nil|exact xdn ()|fail)
theorem yUg (h1:64≤n) (h2:n≤3000) (hst:Still D) (hn:D.n=n) (v:Nat) {r0:Rows} (hr:RisR r0) (hv:1≤v∧v≤1099511627776) (hL:(yAh r0).length≤234*yAu n) (g1:yA9 D 0=0) (g2:yBC D 0=v) (g3:yBt D 0=yBd n (yAh r0).length) (g4:yBH D (yAt n v) (yAu n) v (yAh r0).length=(yAh r0,0)) (recs:List (List UInt8)) (g5:yEY D (yAK n:Nat) (yA2 n:Nat) v ((((yA2 n:Nat):Int).toNat)+1) 0 []=recs) (hd2:∀ x ∈ recs,(yAE x).2=0) (hbig:234*yAu n<(yAh (lgR r0 recs recs.length)).length):CtU prog W 52 [zPp p,.agg (yMU n).toArray] [yBc p D] (.tuple #[.slice none 0 0,.int .i64 0,.int .i64 (15)]) [yBc p D]:=by
 have csl:=yB4 (W:=W) (p:=p) hst zO
 have hA0:yAu n≤1000:=by unfold yAu;omega
 have hsr:yF0 (yAh r0)=some r0:=yLW hr zO
 have hlN:yA2 n≤3000:=by unfold yA2;omega
 obtain ⟨l1,l2⟩:=yHk (D:=D) (at_:=(yAK n:Nat)) (n:=(yA2 n:Nat)) (ver:=v) (((yA2 n:Nat):Int).toNat+1) 0 [] 0 (fun x hx=>by cases hx) (Nat.le_refl _)
 rw [g5] at l1 l2
 have hrl2:∀ i,i≤recs.length→(lgR r0 recs i).length≤15335424+i*15269888:=by
  intro i
  induction i with
  |zero=>intro _;show r0.length≤_;have:=yCB r0;have h9:(yAh r0).length=(vu r0.length).length+(r0.flatMap rowB).length:=(by unfold yAh;rw [zLa]);omega
  |succ i ih=>
   intro hi
   obtain ⟨x,hx⟩:∃ x,recs[i]? = some x:=⟨_,zLb zO⟩
   have h1:=yCp (yAE x).1 (lgR r0 recs i)
   have h2:=yDn x
   have h3:=l1 x (zLk hx)
   have h4:=ih zO
   rw [yCa r0 hx,zLH]
   omega
 have hrl2:∀ i,i≤recs.length→(lgR r0 recs i).length≤100000000000:=fun i hi=>by
  have h3:=hrl2 i hi
  have:i*15269888≤3001*15269888:=zLt _ zO
  omega
 have cre:=yHX (W:=W) (yAh r0) zO r0 hsr
 have hdn:=fun i=>yPJ hr recs i
 obtain ⟨L,hLL⟩:∃ L,L=(yAh r0).length:=⟨_,rfl⟩
 rw [← hLL] at hL g3 g4
 obtain ⟨f1,f2,f3,f4⟩:=yAO h1 v
 have hA:=yA8 (n:=n) zO
 have hhl:=yB3 n L
 have cso:=yEC (W:=W) (p:=p) (D:=D) hn zO (yBd n L) zO L (yJQ zO zO hL)
 rw [g1,g2,g3] at csl
 have car:=yDC (W:=W) (n:=n) v
 have wv:IntKind.u64.wrap ((v:Nat):Int)=((v:Nat):Int):=yAo _ zO
 have crd:=yFB (W:=W) (p:=p) (D:=D) hst.ok (by rw [hst.und];simp) (yAt n v:Nat) (yAu n:Nat) v zO (L:Nat)
 rw [g4] at crd
 obtain ⟨hd,hhd⟩:∃ hd,hd=yBd n L:=⟨_,rfl⟩
 rw [← hhd] at cso csl
 clear hhd hhl g1 g2 g3 g4
 have crp:Ct prog W 111 [zPp p,.int .i64 (yAK n:Nat),.int .i64 (yA2 n:Nat),.int .i64 (v:Nat)] [yBc p D] (fun x:Option Addr × Nat=>.tuple #[.slice x.1 recs.length x.2,.int .i64 0]) (fun x=>[yBc p D,lsP lrcC 9 1 (.slice x.1 recs.length x.2) recs]):=by
  have h:=yHV (W:=W) (p:=p) (D:=D) hst.ok (by rw [hst.und];simp) (yAK n:Nat) (yA2 n:Nat) v zO hst.on ⟨zO,zO,zO,zO,zO,zO,zO⟩
  rw [g5,yEy] at h
  exact Ct.rowSl0 h
 obtain ⟨S,hS⟩:∃ S,S=yAh r0:=⟨_,rfl⟩
 rw [← hS] at cre crd
 clear g5
 refine Ct.enter func52 rfl ntmps52 zW (fun R=>?_)
 repeat' (first|refine yA4 ?_;refine yA3 rfl xF rfl (fun g3=>?_)|(refine yAb ?_;first|refine xca crp fun x=>?_;obtain ⟨xa,xc⟩:=x|refine xca cre fun x=>?_;obtain ⟨ra,rc⟩:=x|refine xca crd fun _=>?_|refine xca cso fun _=>?_|refine xca csl fun _=>?_)|refine yEf ?_;refine yAa (yAg rfl wv) ?_|refine yD3 ?_;refine yAa (yAl (q:=false) rfl rfl rfl) ?_|refine yBP ?_;(refine yA5 (X:=Unit) xE car xP rfl ?_)|refine xst ?_|refine xsa ?_;intro _|refine xsb ?_ ?_<;>intro _<;>try omega|refine xsc ?_|refine xdr 7 yJP ?_|refine xdr 21 yHr ?_|refine xsd ?_ ?_|exact Rech.nil|fail)
 have hLv:Lv W lrcC 1 (lsP lrcC 9 1 (.slice xa recs.length xc) recs) xa recs:=Lv.own yCZ rfl
 refine yAz (fun x:{x:Nat × Rows × Option Addr × Nat//x.1≤recs.length∧x.2.1=lgR r0 recs x.1}=>[(0,zPp p),(3,zPp g3),(8,.int .i64 (v:Nat)),(13,.slice x.1.2.2.1 x.1.2.1.length x.1.2.2.2),(14,.slice xa recs.length xc),(16,.int .i64 (x.1.1:Nat))])
  (fun x=>[yBc p D,yAi g3 (yMU n) 46,yBL (x.1.2.2.1,x.1.2.2.2) x.1.2.1,lsP lrcC 9 1 (.slice xa recs.length xc) recs]++R) (fun x=>recs.length-x.1.1) ⟨(0,r0,ra,rc),zLA _,rfl⟩ xB (xN) (fun ⟨(i,T,ta,tc),hi,hT⟩=>?_)
 dsimp only at hi hT ⊢
 by_cases hlt:i<recs.length
 ·have hii:i<recs.length:=by omega
  have ql:decide ((i:Int)<(recs.length:Nat))=true:=zY zO
  obtain ⟨x,hx0⟩:∃ s,recs[i]? = some s:=⟨_,zLb zO⟩
  refine KJ.lvSome hLv xS zO (fun b0 of hab=>?_)
  subst hab
  have hoff:of+Int.toNat (i:Int)*1=of+i*1+0:=zW
  have hv0:(lrcC x)[0]? = some (strV x):=rfl
  have hxl:=l1 x (zLk hx0)
  have cde:=yFX (W:=W) x zO
  have hdx:=hd2 x (zLk hx0)
  rw [hdx] at cde
  have hnx:=yCa r0 hx0
  have hll:=hrl2 i zO
  have hdl2:=yDn x
  have hTr:RisR T:=by rw [hT];exact hdn i
  have hTl:T.length≤100000000000:=by rw [hT];exact hll
  have cba:=fun ya yc=>yHh (W:=W) (yBL (ta,tc) T) _ ta ya tc yc T (yAE x).1 (Lv.own (e:=62) (c:=tc) yB2 rfl) (Lv.own (e:=60) (c:=yc) yBy rfl) hTr zO
  have hT2:yAJ T (yAE x).1=lgR r0 recs (i+1):=by rw [hT,hnx]
  obtain ⟨os,hos⟩:∃ os,os=(yAE x).1:=⟨_,rfl⟩
  rw [← hos] at cde cba hT2
  obtain ⟨T2,hT3⟩:∃ T2,T2=yAJ T os:=⟨_,rfl⟩
  rw [← hT3] at hT2
  simp only [← hT3] at cba
  repeat' (first|(refine yAb ?_;first|refine xca (cba _ _) fun y=>?_;obtain ⟨za,zc⟩:=y|refine xca cde fun y=>?_;obtain ⟨ya,yc⟩:=y)|refine yAj ?_;refine yAa (yBh yCZ hLv rfl rfl xS hoff hx0 hv0) ?_|refine yWf ?_;refine yAa (yAd (r:=((i+1:Nat):Int)) rfl rfl zO zO) ?_|refine yD3 ?_;refine yAa (yAl (q:=false) rfl rfl rfl) ?_|refine yFg ?_;refine yAa (yAc rfl rfl ql) ?_|refine xst ?_|refine xsa ?_;intro _|refine xsb ?_ ?_<;>intro _<;>try omega|refine xsc ?_|refine xdr 7 yKH ?_|refine xdr 21 yEE ?_|refine xsd ?_ ?_|exact Rech.nil|fail)
  all_goals refine yAp ⟨(i+1,T2,_,_),by dsimp only;omega,hT2⟩ (by show recs.length-(i+1)<recs.length-i;omega) xB (xN)
 ·have ql:decide ((i:Int)<(recs.length:Nat))=false:=zZ zO
  obtain rfl:i=recs.length:=zO
  have hbl:=yOF hr recs (fun x hx=>by have:=l1 x hx;omega) zO zO
  have csz:=yHW (W:=W) (yBL (ta,tc) T) ta tc T (Lv.own (e:=62) (c:=tc) yB2 rfl) (by rw [hT];exact hbl)
  have crm:=yFx (W:=W) (n:=yAu n) zO
  have qg:decide (((234*yAu n:Nat):Int)<(((yAh T).length:Nat):Int))=true:=zY (by rw [hT];omega)
  repeat' (first|refine yFg ?_;refine yAa (yAc rfl rfl ql) ?_|refine yF5 ?_;refine yAa (yAe rfl rfl qg) ?_|refine yBP ?_;(refine yA5 (X:=Unit) xE csz xP rfl ?_)|refine yBP ?_;(refine yA5 (X:=Unit) xE crm xP rfl ?_)|refine xst ?_|refine xsa ?_;intro _|refine xsb ?_ ?_<;>intro _<;>try omega|refine xsc ?_|refine xdr 7 yJP ?_|refine xdr 21 yHr ?_|refine xsd ?_ ?_|exact Rech.nil|exact xdn ()|fail)
theorem yRb (h1:64≤n) (h2:n≤3000) (hst:Still D) (hn:D.n=n) {r0:Rows} {recs:List (List UInt8)} {v:Nat} (hO:LiesO n D r0 recs v r):Ct prog W 52 [zPp p,.agg (yMU n).toArray] [yBc p D] (fun x:Option Addr × Nat=>.tuple #[.slice x.1 r.length x.2,.int .i64 (v:Nat),.int .i64 0]) (fun x=>[yBc p D,yBL x r]):=by
 obtain ⟨g1,g2,hv,g3,g4,hr,hL,g5,hd2,his,hroom⟩:=hO
 have csl:=yB4 (W:=W) (p:=p) hst zO
 have hA0:yAu n≤1000:=by unfold yAu;omega
 have hsr:yF0 (yAh r0)=some r0:=yLW hr zO
 have hlN:yA2 n≤3000:=by unfold yA2;omega
 obtain ⟨l1,l2⟩:=yHk (D:=D) (at_:=(yAK n:Nat)) (n:=(yA2 n:Nat)) (ver:=v) (((yA2 n:Nat):Int).toNat+1) 0 [] 0 (fun x hx=>by cases hx) (Nat.le_refl _)
 rw [g5] at l1 l2
 have hrl2:∀ i,i≤recs.length→(lgR r0 recs i).length≤15335424+i*15269888:=by
  intro i
  induction i with
  |zero=>intro _;show r0.length≤_;have:=yCB r0;have h9:(yAh r0).length=(vu r0.length).length+(r0.flatMap rowB).length:=(by unfold yAh;rw [zLa]);omega
  |succ i ih=>
   intro hi
   obtain ⟨x,hx⟩:∃ x,recs[i]? = some x:=⟨_,zLb zO⟩
   have h1:=yCp (yAE x).1 (lgR r0 recs i)
   have h2:=yDn x
   have h3:=l1 x (zLk hx)
   have h4:=ih zO
   rw [yCa r0 hx,zLH]
   omega
 have hrl2:∀ i,i≤recs.length→(lgR r0 recs i).length≤100000000000:=fun i hi=>by
  have h3:=hrl2 i hi
  have:i*15269888≤3001*15269888:=zLt _ zO
  omega
 have cre:=yHX (W:=W) (yAh r0) zO r0 hsr
 have hdn:=fun i=>yPJ hr recs i
 obtain ⟨L,hLL⟩:∃ L,L=(yAh r0).length:=⟨_,rfl⟩
 rw [← hLL] at hL g3 g4
 obtain ⟨f1,f2,f3,f4⟩:=yAO h1 v
 have hA:=yA8 (n:=n) zO
 have hhl:=yB3 n L
 have cso:=yEC (W:=W) (p:=p) (D:=D) hn zO (yBd n L) zO L (yJQ zO zO hL)
 rw [g1,g2,g3] at csl
 have car:=yDC (W:=W) (n:=n) v
 have wv:IntKind.u64.wrap ((v:Nat):Int)=((v:Nat):Int):=yAo _ zO
 have crd:=yFB (W:=W) (p:=p) (D:=D) hst.ok (by rw [hst.und];simp) (yAt n v:Nat) (yAu n:Nat) v zO (L:Nat)
 rw [g4] at crd
 obtain ⟨hd,hhd⟩:∃ hd,hd=yBd n L:=⟨_,rfl⟩
 rw [← hhd] at cso csl
 clear hhd hhl g1 g2 g3 g4
 have crp:Ct prog W 111 [zPp p,.int .i64 (yAK n:Nat),.int .i64 (yA2 n:Nat),.int .i64 (v:Nat)] [yBc p D] (fun x:Option Addr × Nat=>.tuple #[.slice x.1 recs.length x.2,.int .i64 0]) (fun x=>[yBc p D,lsP lrcC 9 1 (.slice x.1 recs.length x.2) recs]):=by
  have h:=yHV (W:=W) (p:=p) (D:=D) hst.ok (by rw [hst.und];simp) (yAK n:Nat) (yA2 n:Nat) v zO hst.on ⟨zO,zO,zO,zO,zO,zO,zO⟩
  rw [g5,yEy] at h
  exact Ct.rowSl0 h
 obtain ⟨S,hS⟩:∃ S,S=yAh r0:=⟨_,rfl⟩
 rw [← hS] at cre crd
 clear g5
 refine Ct.enter func52 rfl ntmps52 zW (fun R=>?_)
 repeat' (first|refine yA4 ?_;refine yA3 rfl xF rfl (fun g3=>?_)|(refine yAb ?_;first|refine xca crp fun x=>?_;obtain ⟨xa,xc⟩:=x|refine xca cre fun x=>?_;obtain ⟨ra,rc⟩:=x|refine xca crd fun _=>?_|refine xca cso fun _=>?_|refine xca csl fun _=>?_)|refine yEf ?_;refine yAa (yAg rfl wv) ?_|refine yD3 ?_;refine yAa (yAl (q:=false) rfl rfl rfl) ?_|refine yBP ?_;(refine yA5 (X:=Unit) xE car xP rfl ?_)|refine xst ?_|refine xsa ?_;intro _|refine xsb ?_ ?_<;>intro _<;>try omega|refine xsc ?_|refine xdr 7 yJP ?_|refine xdr 21 yHr ?_|refine xsd ?_ ?_|exact Rech.nil|fail)
 have hLv:Lv W lrcC 1 (lsP lrcC 9 1 (.slice xa recs.length xc) recs) xa recs:=Lv.own yCZ rfl
 refine yAz (fun x:{x:Nat × Rows × Option Addr × Nat//x.1≤recs.length∧x.2.1=lgR r0 recs x.1}=>[(0,zPp p),(3,zPp g3),(8,.int .i64 (v:Nat)),(13,.slice x.1.2.2.1 x.1.2.1.length x.1.2.2.2),(14,.slice xa recs.length xc),(16,.int .i64 (x.1.1:Nat))])
  (fun x=>[yBc p D,yAi g3 (yMU n) 46,yBL (x.1.2.2.1,x.1.2.2.2) x.1.2.1,lsP lrcC 9 1 (.slice xa recs.length xc) recs]++R) (fun x=>recs.length-x.1.1) ⟨(0,r0,ra,rc),zLA _,rfl⟩ xB (xN) (fun ⟨(i,T,ta,tc),hi,hT⟩=>?_)
 dsimp only at hi hT ⊢
 by_cases hlt:i<recs.length
 ·have hii:i<recs.length:=by omega
  have ql:decide ((i:Int)<(recs.length:Nat))=true:=zY zO
  obtain ⟨x,hx0⟩:∃ s,recs[i]? = some s:=⟨_,zLb zO⟩
  refine KJ.lvSome hLv xS zO (fun b0 of hab=>?_)
  subst hab
  have hoff:of+Int.toNat (i:Int)*1=of+i*1+0:=zW
  have hv0:(lrcC x)[0]? = some (strV x):=rfl
  have hxl:=l1 x (zLk hx0)
  have cde:=yFX (W:=W) x zO
  have hdx:=hd2 x (zLk hx0)
  rw [hdx] at cde
  have hnx:=yCa r0 hx0
  have hll:=hrl2 i zO
  have hdl2:=yDn x
  have hTr:RisR T:=by rw [hT];exact hdn i
  have hTl:T.length≤100000000000:=by rw [hT];exact hll
  have cba:=fun ya yc=>yHh (W:=W) (yBL (ta,tc) T) _ ta ya tc yc T (yAE x).1 (Lv.own (e:=62) (c:=tc) yB2 rfl) (Lv.own (e:=60) (c:=yc) yBy rfl) hTr zO
  have hT2:yAJ T (yAE x).1=lgR r0 recs (i+1):=by rw [hT,hnx]
  obtain ⟨os,hos⟩:∃ os,os=(yAE x).1:=⟨_,rfl⟩
  rw [← hos] at cde cba hT2
  obtain ⟨T2,hT3⟩:∃ T2,T2=yAJ T os:=⟨_,rfl⟩
  rw [← hT3] at hT2
  simp only [← hT3] at cba
  repeat' (first|(refine yAb ?_;first|refine xca (cba _ _) fun y=>?_;obtain ⟨za,zc⟩:=y|refine xca cde fun y=>?_;obtain ⟨ya,yc⟩:=y)|refine yAj ?_;refine yAa (yBh yCZ hLv rfl rfl xS hoff hx0 hv0) ?_|refine yWf ?_;refine yAa (yAd (r:=((i+1:Nat):Int)) rfl rfl zO zO) ?_|refine yD3 ?_;refine yAa (yAl (q:=false) rfl rfl rfl) ?_|refine yFg ?_;refine yAa (yAc rfl rfl ql) ?_|refine xst ?_|refine xsa ?_;intro _|refine xsb ?_ ?_<;>intro _<;>try omega|refine xsc ?_|refine xdr 7 yKH ?_|refine xdr 21 yEE ?_|refine xsd ?_ ?_|exact Rech.nil|fail)
  all_goals refine yAp ⟨(i+1,T2,_,_),by dsimp only;omega,hT2⟩ (by show recs.length-(i+1)<recs.length-i;omega) xB (xN)
 ·have ql:decide ((i:Int)<(recs.length:Nat))=false:=zZ zO
  obtain rfl:i=recs.length:=zO
  have hbl:=yOF hr recs (fun x hx=>by have:=l1 x hx;omega) zO zO
  have csz:=yHW (W:=W) (yBL (ta,tc) T) ta tc T (Lv.own (e:=62) (c:=tc) yB2 rfl) (by rw [hT];exact hbl)
  have crm:=yFx (W:=W) (n:=yAu n) zO
  have qg:decide (((234*yAu n:Nat):Int)<(((yAh T).length:Nat):Int))=false:=zZ (by rw [hT,his];omega)
  rw [his] at hT
  subst hT
  repeat' (first|refine yFg ?_;refine yAa (yAc rfl rfl ql) ?_|refine yF5 ?_;refine yAa (yAe rfl rfl qg) ?_|refine yBP ?_;(refine yA5 (X:=Unit) xE csz xP rfl ?_)|refine yBP ?_;(refine yA5 (X:=Unit) xE crm xP rfl ?_)|refine xst ?_|refine xsa ?_;intro _|refine xsb ?_ ?_<;>intro _<;>try omega|refine xsc ?_|refine xdr 7 yJP ?_|refine xdr 21 yHr ?_|refine xsd ?_ ?_|exact Rech.nil|fail)
  all_goals (exact xdn (ta,tc))
end
abbrev rsC (p n:Nat) (ra:Option Addr) (rl rc:Nat) (v:Int) (j:Option Addr) (life:Int) (dead:Bool):List Value:=[zPp p,.int .i64 2,.int .i64 (2+yAu n:Nat),.int .i64 (yAu n:Nat),.int .i64 (yAK n:Nat),.int .i64 (yA2 n:Nat),.slice ra rl rc,.int .i64 v,.pointer j,.int .i64 life,.bool dead]
abbrev rsP (t p n:Nat) (ra:Option Addr) (rl rc:Nat) (v:Int) (j:Option Addr) (life:Int) (dead:Bool):SP:=yAi t (rsC p n ra rl rc v j life dead) 49
abbrev rjP (g p n v used:Nat) (dead:Bool) (life:Int):SP:=yAi g [zPp p,.int .i64 (yAK n:Nat),.int .i64 (yA2 n:Nat),.int .i64 (v:Nat),.int .i64 (used:Nat),.bool dead,.int .i64 life] 242
section
variable {W:World} {p n t:Nat} {D:Dsk} {r:Rows}
instance yZW:FnIs prog 53:=⟨zK⟩
instance yYE:FnIs prog 23:=⟨zK⟩
theorem yNh (v:Int) (hv:1099511627776≤v) (ra:Option Addr) (rl rc:Nat) (j:Option Addr) (life:Int) (dead:Bool) :
 CtU prog W 53 [zPp t] [rsP t p n ra rl rc v j life dead] (.int .i64 16) [rsP t p n ra rl rc v j life dead]:=by
 have q1:decide ((1099511627776:Int)≤v)=true:=zY hv
 refine Ct.enter func53 rfl ntmps53 zW (fun R=>?_)
 repeat' (first|refine yIR ?_;refine yAa (yAm rfl rfl q1) ?_|refine xst ?_|refine xsa ?_;intro _|refine xsb ?_ ?_<;>intro _<;>try omega|refine xsc ?_|refine xdr 3 yT9 ?_|refine xdr 8 yUa ?_|refine xsd ?_ ?_|exact Rech.nil|exact xdn ()|fail)
theorem yRc (A:SP) (ra:Option Addr) (rc:Nat) (hA:Lv W rC 2 A ra r) (h1:64≤n) (h2:n≤3000) (hst:Still D) (hn:D.n=n) (v:Nat) (hv:v+1≤1099511627776) (j:Option Addr) (life:Int) (hroom:(yAh r).length≤234*yAu n) :
 (yCk D n v r=12→CtU prog W 53 [zPp t] [A,rsP t p n ra r.length rc (v:Nat) j life false,yBc p D] (.int .i64 12) [A,rsP t p n ra r.length rc (v:Nat) j life true,yBc p (yBx D n v r)])∧
 (yCk D n v r=0→Ct prog W 53 [zPp t] [A,rsP t p n ra r.length rc (v:Nat) j life false,yBc p D] (fun _:Nat=>.int .i64 0) (fun g=>[A,rsP t p n ra r.length rc (v+1:Nat) (some ⟨g,0,none⟩) life false,yBc p (yBx D n v r),rjP g p n (v+1) 0 false (yBx D n v r).life])):=by
 have hlA:yAu n≤1000:=by unfold yAu;omega
 obtain ⟨f1,f2,f3,f4⟩:=yAO h1 0
 have cm:=yKI (W:=W) (p:=p) (D:=D) A ra rc hA h1 zO hst hn v (v+1) rfl hv hroom zO
 have fw:=yHp hst hn h1 zO v hv r hroom
 have q1:decide ((1099511627776:Int)≤(v:Nat))=false:=zZ zO
 have ev:((v:Nat):Int)+1=((v+1:Nat):Int):=zO
 have hnW:=fw.nn
 obtain ⟨D2,hD2⟩:∃ D2,D2=yBx D n v r:=⟨_,rfl⟩
 refine ⟨fun h=>?_,fun h=>?_⟩
 ·rw [h,← hD2] at cm
  rw [← hD2]
  clear hD2 hnW
  refine Ct.enter func53 rfl ntmps53 zW (fun R=>?_)
  repeat' (first|refine yAb ?_;refine xca cm fun _=>?_|refine yWf ?_;refine yAa (yAd rfl rfl ev zO) ?_|refine yD3 ?_;refine yAa (yAl (q:=true) rfl rfl rfl) ?_|refine yIR ?_;refine yAa (yAm rfl rfl q1) ?_|refine xst ?_|refine xsa ?_;intro _|refine xsb ?_ ?_<;>intro _<;>try omega|refine xsc ?_|refine xdr 3 yT9 ?_|refine xdr 8 yUa ?_|refine xsd ?_ ?_|exact Rech.nil|exact xdn ()|fail)
 ·have hon:(yBx D n v r).off=false:=by
   rcases fw.way with ⟨-,q⟩|⟨q,-⟩
   ·exact q.on
   ·rw [h] at q;cases q
  rw [h,← hD2] at cm
  rw [← hD2] at hon hnW ⊢
  have cb:=yTU (W:=W) (p:=p) (D:=D2) (yAK n:Nat) (yA2 n:Nat) (v+1:Nat) zO hon ⟨zO,zO,zO,zO,zO,zO,zO⟩
  clear hD2
  refine Ct.enter func53 rfl ntmps53 zW (fun R=>?_)
  repeat' (first|(refine yAb ?_;first|refine xca cb fun g=>?_|refine xca cm fun _=>?_)|refine yWf ?_;refine yAa (yAd rfl rfl ev zO) ?_|refine yD3 ?_;refine yAa (yAl (q:=false) rfl rfl rfl) ?_|refine yIR ?_;refine yAa (yAm rfl rfl q1) ?_|refine xst ?_|refine xsa ?_;intro _|refine xsb ?_ ?_<;>intro _<;>try omega|refine xsc ?_|refine xdr 3 yT9 ?_|refine xdr 8 yUa ?_|refine xsd ?_ ?_|exact Rech.nil|fail)
  all_goals (exact xdn g)
theorem yKJ (h1:64≤n) (h2:n≤3000) (hst:Still D) (hn:D.n=n) (e:Nat) (hB:Bad n D e):e≠0∧
 CtU prog W 52 [zPp p,.agg (yMU n).toArray] [yBc p D] (.tuple #[.slice none 0 0,.int .i64 0,.int .i64 (e:Nat)]) [yBc p D]:=by
 have hlA:yAu n≤1000:=by unfold yAu;omega
 cases hB with
 |slot e h hne=>exact ⟨hne,yUb h1 h2 hst hn e h hne⟩
 |hdr h hh=>exact ⟨zO,yUc h1 h2 hst hn h hh⟩
 |area v k h hv v1 hh hk ha=>exact ⟨zO,yUd h1 h2 hst hn v k v1 hk h hv hh ha⟩
 |rows v k s h hv v1 hh hk ha hs hr=>exact ⟨zO,yUe h1 h2 hst hn v k v1 hk h hv hh s zO hr ha⟩
 |bat v r0 recs i h hv v1 hh hk ha hr rp hi hb hg=>exact ⟨zO,yUf h1 h2 hst hn v hr v1 hk h hv hh ha recs rp i hi hb hg⟩
 |room v r0 recs h hv v1 hh hk ha hr rp hd hb=>exact ⟨zO,yUg h1 h2 hst hn v hr v1 hk h hv hh ha recs rp hd hb⟩
theorem yRd (h1:64≤n) (h2:n≤3000) (hst:Still D) (hn:D.n=n) (e:Nat) (hB:Bad n D e) :
 CtU prog W 23 [zPp p] [yBc p D] (.tuple #[.pointer none,.int .i64 (e:Nat)]) [yBc p D]:=by
 obtain ⟨hne,cl⟩:=yKJ (W:=W) (p:=p) h1 h2 hst hn e hB
 have clay:=yIA (W:=W) h1 (show n≤65536 by omega)
 have qe:decide (((e:Nat):Int)≠0)=true:=zY zO
 refine Ct.enter func23 rfl ntmps23 zW (fun R=>?_)
 refine KJ.unpack_at (F:=yCH p D) xS (fun x=>?_)
 obtain ⟨sv,wv⟩:=x
 rw [yAX,hn,hst.on]
 refine KJ.row_slice xS (fun sa sc e=>?_)
 subst e
 repeat' (first|refine yAw (id:=6) ?_;refine yCO ?_|refine yAs ?_;refine yAq rfl (fun g4=>?_)|refine yAb ?_;refine xca clay fun _=>?_|refine yD3 ?_;refine yAa (yAl (q:=false) rfl rfl rfl) ?_|refine xst ?_|refine xsa ?_;intro _|refine xsb ?_ ?_<;>intro _<;>try omega|refine xsc ?_|refine xdr 9 yEe ?_|refine xsd ?_ ?_|exact Rech.nil|fail)
 refine Hold.mk ?_
 refine KJ.pack (tag:=21) (key:=p) (F:=yCH p D) (.slice sa n sc,wv) (by rw [yAX,hn,hst.on];exact xP) ?_
 repeat' (first|refine yAb ?_;refine xca cl fun _=>?_|refine yD3 ?_;refine yAa (yAl rfl rfl qe) ?_|refine xst ?_|refine xsa ?_;intro _|refine xsb ?_ ?_<;>intro _<;>try omega|refine xsc ?_|refine xdr 9 yEe ?_|refine xsd ?_ ?_|exact Rech.nil|exact xdn ()|fail)
theorem yKK (h1:64≤n) (h2:n≤3000) (hst:Still D) (hn:D.n=n) {r0:Rows} {recs:List (List UInt8)} {v:Nat} (hL:LiesO n D r0 recs v r) :
 (yRa D n v r≠0→CtU prog W 23 [zPp p] [yBc p D] (.tuple #[.pointer none,.int .i64 (yRa D n v r:Nat)]) [yBc p (yRi D n v r)])∧
 (yRa D n v r=0→Ct prog W 23 [zPp p] [yBc p D] (fun x:Nat × (Option Addr × Nat) × Nat=>.tuple #[.pointer (some ⟨x.1,0,none⟩),.int .i64 0])
  (fun x=>[rsP x.1 p n x.2.1.1 r.length x.2.1.2 (v+1:Nat) (some ⟨x.2.2,0,none⟩) D.life false,yBc p (yRi D n v r),yBL x.2.1 r,rjP x.2.2 p n (v+1) 0 false (yRi D n v r).life])):=by
 have cl:=yRb (W:=W) (p:=p) h1 h2 hst hn hL
 have clay:=yIA (W:=W) h1 (show n≤65536 by omega)
 have hv:=hL.v1
 have hroom:=hL.room
 have hlife:∀ sv wv:Value,[sv,wv,.bool D.off,.bool (decide (0≤D.armed)),.int .i64 (max D.armed 0),.int .i64 D.writes,.int .i64 D.flushes,.int .i64 D.life][0+7]? = some (.int .i64 D.life):=fun _ _=>rfl
 unfold yRa yRi
 by_cases hw:1099511627776≤v
 ·rw [if_pos hw,if_pos hw]
  refine ⟨fun _=>?_,fun h=>by cases h⟩
  refine Ct.enter func23 rfl ntmps23 zW (fun R=>?_)
  refine KJ.unpack_at (F:=yCH p D) xS (fun x=>?_)
  obtain ⟨sv,wv⟩:=x
  rw [yAX,hn,hst.on]
  refine KJ.row_slice xS (fun sa sc e=>?_)
  subst e
  repeat' (first|refine yAw (id:=6) ?_;refine yCO ?_|refine yAs ?_;refine yAq rfl (fun g4=>?_)|refine yAb ?_;refine xca clay fun _=>?_|refine yD3 ?_;refine yAa (yAl (q:=false) rfl rfl rfl) ?_|refine xst ?_|refine xsa ?_;intro _|refine xsb ?_ ?_<;>intro _<;>try omega|refine xsc ?_|refine xdr 9 yEe ?_|refine xsd ?_ ?_|exact Rech.nil|fail)
  refine Hold.mk ?_
  refine KJ.pack (tag:=21) (key:=p) (F:=yCH p D) (.slice sa n sc,wv) (by rw [yAX,hn,hst.on];exact xP) ?_
  repeat' (first|refine yAw (id:=9) ?_;refine yCO ?_|refine yAb ?_;refine xca cl fun x=>?_;obtain ⟨ra,rc⟩:=x|refine yD3 ?_;refine yAa (yAl (q:=false) rfl rfl rfl) ?_|refine xst ?_|refine xsa ?_;intro _|refine xsb ?_ ?_<;>intro _<;>try omega|refine xsc ?_|refine xdr 9 yEe ?_|refine xsd ?_ ?_|exact Rech.nil|fail)
  refine Hold.mk ?_
  have hRa:Lv W rC 2 (yBL (ra,rc) r) ra r:=Lv.own (e:=62) (c:=rc) yB2 rfl
  have cx:=fun t=>yNh (W:=W) (t:=t) (p:=p) (n:=n) (v:Nat) zO ra r.length rc none D.life false
  repeat' (first|refine yA4 ?_;refine yA3 rfl xF rfl (fun g8=>?_)|refine yAb ?_;refine xca (cx _) fun _=>?_|refine yAj ?_;refine yAa (yEz rfl xS hlife) ?_|refine yAB ?_;refine yAa (yAC xV xW) ?_|refine yD3 ?_;refine yAa (yAl (q:=true) rfl rfl rfl) ?_|refine xst ?_|refine xsa ?_;intro _|refine xsb ?_ ?_<;>intro _<;>try omega|refine xsc ?_|refine xdr 9 yEe ?_|refine xsd ?_ ?_|exact Rech.nil|exact xdn ()|fail)
 rw [if_neg hw,if_neg hw]
 have nx:=fun (t:Nat) (ra:Option Addr) (rc:Nat) (hRa:Lv W rC 2 (yBL (ra,rc) r) ra r)=>yRc (W:=W) (t:=t) (p:=p) (D:=D) (yBL (ra,rc) r) ra rc hRa h1 h2 hst hn v zO none D.life hroom
 obtain ⟨D2,hD2⟩:∃ D2,D2=yBx D n v r:=⟨_,rfl⟩
 rw [← hD2] at nx ⊢
 refine ⟨fun h=>?_,fun h=>?_⟩
 ·have h12:yCk D n v r=12:=by
   rcases (yHp hst hn h1 zO v zO r hroom).way with ⟨q,-⟩|⟨q,-⟩
   ·exact absurd q h
   ·exact q
  rw [h12]
  refine Ct.enter func23 rfl ntmps23 zW (fun R=>?_)
  refine KJ.unpack_at (F:=yCH p D) xS (fun x=>?_)
  obtain ⟨sv,wv⟩:=x
  rw [yAX,hn,hst.on]
  refine KJ.row_slice xS (fun sa sc e=>?_)
  subst e
  repeat' (first|refine yAw (id:=6) ?_;refine yCO ?_|refine yAs ?_;refine yAq rfl (fun g4=>?_)|refine yAb ?_;refine xca clay fun _=>?_|refine yD3 ?_;refine yAa (yAl (q:=false) rfl rfl rfl) ?_|refine xst ?_|refine xsa ?_;intro _|refine xsb ?_ ?_<;>intro _<;>try omega|refine xsc ?_|refine xdr 9 yEe ?_|refine xsd ?_ ?_|exact Rech.nil|fail)
  refine Hold.mk ?_
  refine KJ.pack (tag:=21) (key:=p) (F:=yCH p D) (.slice sa n sc,wv) (by rw [yAX,hn,hst.on];exact xP) ?_
  repeat' (first|refine yAw (id:=9) ?_;refine yCO ?_|refine yAb ?_;refine xca cl fun x=>?_;obtain ⟨ra,rc⟩:=x|refine yD3 ?_;refine yAa (yAl (q:=false) rfl rfl rfl) ?_|refine xst ?_|refine xsa ?_;intro _|refine xsb ?_ ?_<;>intro _<;>try omega|refine xsc ?_|refine xdr 9 yEe ?_|refine xsd ?_ ?_|exact Rech.nil|fail)
  refine Hold.mk ?_
  have hRa:Lv W rC 2 (yBL (ra,rc) r) ra r:=Lv.own (e:=62) (c:=rc) yB2 rfl
  have cx:=fun t=>(nx t ra rc hRa).1 h12
  repeat' (first|refine yA4 ?_;refine yA3 rfl xF rfl (fun g8=>?_)|refine yAb ?_;refine xca (cx _) fun _=>?_|refine yAj ?_;refine yAa (yEz rfl xS hlife) ?_|refine yAB ?_;refine yAa (yAC xV xW) ?_|refine yD3 ?_;refine yAa (yAl (q:=true) rfl rfl rfl) ?_|refine xst ?_|refine xsa ?_;intro _|refine xsb ?_ ?_<;>intro _<;>try omega|refine xsc ?_|refine xdr 9 yEe ?_|refine xsd ?_ ?_|exact Rech.nil|exact xdn ()|fail)
 ·skip
  refine Ct.enter func23 rfl ntmps23 zW (fun R=>?_)
  refine KJ.unpack_at (F:=yCH p D) xS (fun x=>?_)
  obtain ⟨sv,wv⟩:=x
  rw [yAX,hn,hst.on]
  refine KJ.row_slice xS (fun sa sc e=>?_)
  subst e
  repeat' (first|refine yAw (id:=6) ?_;refine yCO ?_|refine yAs ?_;refine yAq rfl (fun g4=>?_)|refine yAb ?_;refine xca clay fun _=>?_|refine yD3 ?_;refine yAa (yAl (q:=false) rfl rfl rfl) ?_|refine xst ?_|refine xsa ?_;intro _|refine xsb ?_ ?_<;>intro _<;>try omega|refine xsc ?_|refine xdr 9 yEe ?_|refine xsd ?_ ?_|exact Rech.nil|fail)
  refine Hold.mk ?_
  refine KJ.pack (tag:=21) (key:=p) (F:=yCH p D) (.slice sa n sc,wv) (by rw [yAX,hn,hst.on];exact xP) ?_
  repeat' (first|refine yAw (id:=9) ?_;refine yCO ?_|refine yAb ?_;refine xca cl fun x=>?_;obtain ⟨ra,rc⟩:=x|refine yD3 ?_;refine yAa (yAl (q:=false) rfl rfl rfl) ?_|refine xst ?_|refine xsa ?_;intro _|refine xsb ?_ ?_<;>intro _<;>try omega|refine xsc ?_|refine xdr 9 yEe ?_|refine xsd ?_ ?_|exact Rech.nil|fail)
  refine Hold.mk ?_
  have hRa:Lv W rC 2 (yBL (ra,rc) r) ra r:=Lv.own (e:=62) (c:=rc) yB2 rfl
  have cx:=fun t=>(nx t ra rc hRa).2 h
  repeat' (first|refine yA4 ?_;refine yA3 rfl xF rfl (fun g8=>?_)|refine yAb ?_;refine xca (cx _) fun g=>?_|refine yAj ?_;refine yAa (yEz rfl xS hlife) ?_|refine yAB ?_;refine yAa (yAC xV xW) ?_|refine yD3 ?_;refine yAa (yAl (q:=false) rfl rfl rfl) ?_|refine xst ?_|refine xsa ?_;intro _|refine xsb ?_ ?_<;>intro _<;>try omega|refine xsc ?_|refine xdr 9 yEe ?_|refine xsd ?_ ?_|exact Rech.nil|fail)
  all_goals (exact xdn (g8,(ra,rc),g))
end
section
variable {W:World} {p n:Nat} {D:Dsk} {r:Rows}
instance yWW:FnIs prog 14:=⟨zK⟩
theorem yJR (B:SP) (h1:n<64) (hn:D.n=n) (ob:Option Addr) (ol oc:Nat) :
 CtU prog W 14 [zPp p,.slice ob ol oc] [B,yBc p D] (.int .i64 13) [B,yBc p D]:=by
 have clay:=yJD (W:=W) (n:Nat) zO
 refine Ct.enter func14 rfl ntmps14 zW (fun R=>?_)
 refine KJ.unpack_at (F:=yCH p D) xS (fun x=>?_)
 obtain ⟨sv,wv⟩:=x
 rw [yAX,hn]
 refine KJ.row_slice xS (fun sa sc e=>?_)
 subst e
 repeat' (first|refine yAs ?_;refine yAq rfl (fun g4=>?_)|refine yAb ?_;refine xca clay fun _=>?_|refine yD3 ?_;refine yAa (yAl (q:=true) rfl rfl rfl) ?_|refine xst ?_|refine xsa ?_;intro _|refine xsb ?_ ?_<;>intro _<;>try omega|refine xsc ?_|refine xdr 10 yEE ?_|refine xsd ?_ ?_|exact Rech.nil|fail)
 refine KJ.pack (tag:=21) (key:=p) (F:=yCH p D) (.slice sa n sc,wv) (by rw [yAX,hn];exact xP) ?_
 (exact xdn ())
theorem yLX (h1:n<64) (hn:D.n=n) :
 CtU prog W 23 [zPp p] [yBc p D] (.tuple #[.pointer none,.int .i64 13]) [yBc p D]:=by
 have clay:=yJD (W:=W) (n:Nat) zO
 refine yIk fun sv wv=>?_
 rw [yAX,hn]
 refine Ct.enter func23 rfl ntmps23 zW (fun R=>?_)
 refine KJ.row_slice xS (fun sa sc e=>?_)
 subst e
 repeat' (first|refine yAs ?_;refine yAq rfl (fun g4=>?_)|refine yAb ?_;refine xca clay fun _=>?_|refine yD3 ?_;refine yAa (yAl (q:=true) rfl rfl rfl) ?_|refine xst ?_|refine xsa ?_;intro _|refine xsb ?_ ?_<;>intro _<;>try omega|refine xsc ?_|refine xdr 9 yEe ?_|refine xsd ?_ ?_|exact Rech.nil|fail)
 refine KJ.pack (tag:=21) (key:=p) (F:=yCH p D) (.slice sa n sc,wv) (by rw [yAX,hn];exact xP) ?_
 (exact xdn ())
theorem yLY (B:SP) (h1:64≤n) (h2:n≤3000) (hst:Still D) (hn:D.n=n) (h0:yA9 D 0=0) (ob:Option Addr) (ol oc:Nat) :
 CtU prog W 14 [zPp p,.slice ob ol oc] [B,yBc p D] (.int .i64 21) [B,yBc p D]:=by
 have clay:=yIA (W:=W) h1 (show n≤65536 by omega)
 have csl:=yB4 (W:=W) (p:=p) hst zO
 rw [h0] at csl
 refine Ct.enter func14 rfl ntmps14 zW (fun R=>?_)
 refine KJ.unpack_at (F:=yCH p D) xS (fun x=>?_)
 obtain ⟨sv,wv⟩:=x
 rw [yAX,hn,hst.on]
 refine KJ.row_slice xS (fun sa sc e=>?_)
 subst e
 repeat' (first|refine yAw (id:=6) ?_;refine yCO ?_|refine yAs ?_;refine yAq rfl (fun g4=>?_)|refine yAb ?_;refine xca clay fun _=>?_|refine yD3 ?_;refine yAa (yAl (q:=false) rfl rfl rfl) ?_|refine xst ?_|refine xsa ?_;intro _|refine xsb ?_ ?_<;>intro _<;>try omega|refine xsc ?_|refine xdr 10 yEE ?_|refine xsd ?_ ?_|exact Rech.nil|fail)
 refine Hold.mk ?_
 refine KJ.pack (tag:=21) (key:=p) (F:=yCH p D) (.slice sa n sc,wv) (by rw [yAX,hn,hst.on];exact xP) ?_
 repeat' (first|refine yAb ?_;refine xca csl fun _=>?_|refine yDe ?_;refine yAa (yAf (q:=true) rfl rfl rfl) ?_|refine xst ?_|refine xsa ?_;intro _|refine xsb ?_ ?_<;>intro _<;>try omega|refine xsc ?_|refine xdr 10 yEE ?_|refine xsd ?_ ?_|exact Rech.nil|exact xdn ()|fail)
theorem yNi (h1:64≤n) (h2:n≤3000) (hst:Still D) (hn:D.n=n) (h0:yA9 D 0=14) (B:SP) (ob:Option Addr) (oc:Nat) (ops:List BOp) (hB:Lv W opC 3 B ob ops) (ho:ops.length≤100000000) (hr:yAJ [] ops=r) (hs:(yAh r).length≤4611686018427387904) :
 (234*yAu n<(yAh r).length→CtU prog W 14 [zPp p,.slice ob ops.length oc] [B,yBc p D] (.int .i64 17) [B,yBc p D])∧
 ((yAh r).length≤234*yAu n→CtU prog W 14 [zPp p,.slice ob ops.length oc] [B,yBc p D] (.int .i64 (yCk D n 0 r:Nat)) [B,yBc p (yBx D n 0 r)]):=by
 have hlA:yAu n≤1000:=by unfold yAu;omega
 have clay:=yIA (W:=W) h1 (show n≤65536 by omega)
 have csl:=yB4 (W:=W) (p:=p) hst zO
 rw [h0] at csl
 have cap:=yHh (W:=W) noP B none ob 0 oc [] ops (Lv.old yB2 ⟨none,0,rfl,fun h=>absurd rfl h⟩) hB List.Pairwise.nil (by simp;omega)
 rw [hr] at cap
 have csz:=fun x:Option Addr × Nat=>yHW (W:=W) (yBL x r) x.1 x.2 r (Lv.own (e:=62) (c:=x.2) yB2 rfl) hs
 have crm:=yFx (W:=W) (n:=yAu n) zO
 have ql:(([]:Rows).length:Nat)=0:=rfl
 refine ⟨fun hbig=>?_,fun hfit=>?_⟩
 ·have qg:decide (((234*yAu n:Nat):Int)<(((yAh r).length:Nat):Int))=true:=zY zO
  refine Ct.enter func14 rfl ntmps14 zW (fun R=>?_)
  refine KJ.noP ?_
  refine KJ.unpack_at (F:=yCH p D) xS (fun x=>?_)
  obtain ⟨sv,wv⟩:=x
  rw [yAX,hn,hst.on]
  refine KJ.row_slice xS (fun sa sc e=>?_)
  subst e
  repeat' (first|refine yAw (id:=6) ?_;refine yCO ?_|refine yAs ?_;refine yAq rfl (fun g4=>?_)|refine yAb ?_;refine xca clay fun _=>?_|refine yD3 ?_;refine yAa (yAl (q:=false) rfl rfl rfl) ?_|refine xst ?_|refine xsa ?_;intro _|refine xsb ?_ ?_<;>intro _<;>try omega|refine xsc ?_|refine xdr 10 yEE ?_|refine xsd ?_ ?_|exact Rech.nil|fail)
  refine Hold.mk ?_
  refine KJ.pack (tag:=21) (key:=p) (F:=yCH p D) (.slice sa n sc,wv) (by rw [yAX,hn,hst.on];exact xP) ?_
  repeat' (first|refine yAw (id:=10) ?_;refine yCO ?_|(refine yAb ?_;first|refine xca cap fun y=>?_|refine xca csl fun _=>?_)|refine yDe ?_;refine yAa (yAf (q:=false) rfl rfl rfl) ?_|refine xst ?_|refine xsa ?_;intro _|refine xsb ?_ ?_<;>intro _<;>try omega|refine xsc ?_|refine xdr 10 yEE ?_|refine xsd ?_ ?_|exact Rech.nil|fail)
  refine Hold.mk ?_
  have cz:=csz y
  repeat' (first|refine yF5 ?_;refine yAa (yAe rfl rfl qg) ?_|refine yBP ?_;(refine yA5 (X:=Unit) xE cz xP rfl ?_)|refine yBP ?_;(refine yA5 (X:=Unit) xE crm xP rfl ?_)|refine xst ?_|refine xsa ?_;intro _|refine xsb ?_ ?_<;>intro _<;>try omega|refine xsc ?_|refine xdr 10 yHr ?_|refine xsd ?_ ?_|exact Rech.nil|exact xdn ()|fail)
 ·have qg:decide (((234*yAu n:Nat):Int)<(((yAh r).length:Nat):Int))=false:=zZ zO
  have cmk:=fun x:Option Addr × Nat=>yKI (W:=W) (p:=p) (D:=D) (yBL x r) x.1 x.2 (Lv.own (e:=62) (c:=x.2) yB2 rfl) h1 zO hst hn 0 1 rfl zO hfit zO
  obtain ⟨D2,hD2⟩:∃ D2,D2=yBx D n 0 r:=⟨_,rfl⟩
  obtain ⟨fe,hfe⟩:∃ fe,fe=yCk D n 0 r:=⟨_,rfl⟩
  rw [← hD2,← hfe]
  simp only [← hD2,← hfe] at cmk
  clear hD2 hfe
  refine Ct.enter func14 rfl ntmps14 zW (fun R=>?_)
  refine KJ.noP ?_
  refine KJ.unpack_at (F:=yCH p D) xS (fun x=>?_)
  obtain ⟨sv,wv⟩:=x
  rw [yAX,hn,hst.on]
  refine KJ.row_slice xS (fun sa sc e=>?_)
  subst e
  repeat' (first|refine yAw (id:=6) ?_;refine yCO ?_|refine yAs ?_;refine yAq rfl (fun g4=>?_)|refine yAb ?_;refine xca clay fun _=>?_|refine yD3 ?_;refine yAa (yAl (q:=false) rfl rfl rfl) ?_|refine xst ?_|refine xsa ?_;intro _|refine xsb ?_ ?_<;>intro _<;>try omega|refine xsc ?_|refine xdr 10 yEE ?_|refine xsd ?_ ?_|exact Rech.nil|fail)
  refine Hold.mk ?_
  refine KJ.pack (tag:=21) (key:=p) (F:=yCH p D) (.slice sa n sc,wv) (by rw [yAX,hn,hst.on];exact xP) ?_
  repeat' (first|refine yAw (id:=10) ?_;refine yCO ?_|(refine yAb ?_;first|refine xca cap fun y=>?_|refine xca csl fun _=>?_)|refine yDe ?_;refine yAa (yAf (q:=false) rfl rfl rfl) ?_|refine xst ?_|refine xsa ?_;intro _|refine xsb ?_ ?_<;>intro _<;>try omega|refine xsc ?_|refine xdr 10 yEE ?_|refine xsd ?_ ?_|exact Rech.nil|fail)
  refine Hold.mk ?_
  have cz:=csz y
  have cm:=cmk y
  repeat' (first|refine yAb ?_;refine xca cm fun _=>?_|refine yF5 ?_;refine yAa (yAe rfl rfl qg) ?_|refine yBP ?_;(refine yA5 (X:=Unit) xE cz xP rfl ?_)|refine yBP ?_;(refine yA5 (X:=Unit) xE crm xP rfl ?_)|refine xst ?_|refine xsa ?_;intro _|refine xsb ?_ ?_<;>intro _<;>try omega|refine xsc ?_|refine xdr 10 yHr ?_|refine xsd ?_ ?_|exact Rech.nil|exact xdn ()|fail)
end
end Go.Proofs.YtlnbkbfblhofbaaGreatDoor
