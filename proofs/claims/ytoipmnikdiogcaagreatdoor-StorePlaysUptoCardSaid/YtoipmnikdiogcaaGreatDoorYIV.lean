/-
  SuL.
-/
import Derived.Test.YtoipmnikdiogcaaGreatDoorYIU
set_option maxRecDepth 100000
set_option maxHeartbeats 64000000
namespace Go.Proofs.YtoipmnikdiogcaaGreatDoor
open Go Go.RowKit
open Go.Proofs.Tryz
abbrev yOS:Pl:=(.op 0 (.op 2 (.ef 1 [2] (.ef 3 [] (po [4,5,6,8,9,10,11,12] (.ef 7 [12,11,10,9,8] (po [13,14,15,16,17,18,19,20,21,22,23,24,25,26,27,28,29,30,31] .nil)))))))
theorem blank_ok {n:Nat} (h1:1≤n) (h2:n≤65536):DkOk n 0 (Dsk.blank n):=by have am:(Dsk.blank n).ok:=Dsk.blank_ok n h1 h2;exact ⟨am,rfl,zLA _,.inr ⟨rfl,rfl,am⟩,⟨Int.le_refl _,Int.le_refl _⟩⟩
theorem Ct.noP13u {P:Program} {W:World} {f:FuncId} {args:List Value} {X:Type} {r:X→Value} (h:Ct P W f args [noP] r (fun _=>[noP])):Ct P W f args [] r (fun _=>[]):=
 ⟨fun R w s=>(h.go R w (s.mono yQW)).mono fun _ _ ⟨x,he,hs⟩=>⟨x,he,hs.right (A:=[noP])⟩⟩
section
variable {W:World} {F:Nat→Addr} {g d p n i:Nat}
theorem yQl (hE:ErrsAt W F) (hN:NibAt W) (hg:gB≤W.heap.size) (nI:Int) (B:SP) (b:Option Addr) (c:Nat) (S:List SOp) (hB:Lv W yEW 8 B b S) (hl:S.length≤1048576) (hS:∀ x ∈ S,SOpOk W x) :CtU prog W 3 [zi nI,.slice b S.length c] [B] (.bool true) [B]:=by
 have cL:=ySC hE hN hg;obtain ⟨B1,hB1⟩:∃ B,IntKind.u64.wrap nI=B:=⟨_,rfl⟩;have bU:0≤B1∧B1<18446744073709551616:=by have e:IntKind.u64.wrap nI=nI % 18446744073709551616:=rfl;omega
 obtain ⟨m,hm⟩:∃ k:Nat,B1 % 80=(k:Int):=⟨(B1 % 80).toNat,zO⟩;have hm79:m≤79:=zO;have hwm:IntKind.i64.wrap ((m:Nat):Int)=((m:Nat):Int):=by rw [IntKind.wrap_i64];omega
 obtain ⟨n,hn⟩:∃ n,n=60+m:=⟨_,rfl⟩;have cN:60≤n:=zO;have cO:n≤176:=zO;have cn:Ct prog W 5 [zi (n:Nat)] [] (fun p:Nat=>.tuple #[zPp p,.nilIface]) (fun p=>[DiskP p (Dsk.blank n)]):=yYA n zO zO hg;have rn:=xAE (W:=W) n zO zO;have hk0:=blank_ok (n:=n) zO zO;refine zE func3 ntmps3 fun R=>?_;repeat' (first|refine zbx fun g=>?_|refine xca rn fun p=>?_|refine xca cn fun d=>?_|refine zad n ?_|refine znf ?_|refine xqa ?_|refine xsf ?_ ?_|refine xdr 18 yOS ?_|apply zN|intro _)
 refine KJ.allShut (L:=[]) 96 xP ?_;refine KJ.packs (tag:=96) (key:=g) (F:=fun x:{x:PyX//PyOk n 0 x}=>pyL n g d p x.1) ⟨.no (Dsk.blank n),hk0⟩ (by show Pick [yDx 96 [],yBK g d p none none,DiskP d (Dsk.blank n),yA1 p (Dsk.blank n)] _ _;exact xP) ?_
 refine yAC (fun x:{i:Nat//i≤S.length}=>[(5,zPp d),(7,zPp p),(9,zPp g),(45,.slice b S.length c),(46,zi (S.length:Nat)),(47,zi (x.1:Nat))])
  (fun x=>[B,PyP n g d p x.1]++R) (fun x=>S.length-x.1) ⟨0,zLA _⟩ xB (xN) (fun ⟨i,hi⟩=>?_)
 dsimp only at hi ⊢;by_cases hlt:i<S.length
 ·have ql:decide ((i:Int)<(S.length:Nat))=true:=zY zO;obtain ⟨o,ho⟩:∃ s,S[i]? = some s:=⟨_,zLb hlt⟩;have hoo:=hS o (zLk ho);have ct:=yYp (W:=W) (g:=g) (d:=d) (p:=p) (n:=n) (i:=i+1) zO o hoo;refine KJ.lvSome hB xS zO (fun b1 o1 aJ=>?_);have bD:o1+Int.toNat (i:Int)*8=o1+i*8:=by rw [zLe]
  subst aJ;by_cases kf:o.kind=1∨o.kind=2
  ·refine KJ.unpack_at (F:=fun x:{x:PyX//PyOk n i x}=>pyL n g d p x.1) xS (fun ⟨x,hx⟩=>?_);dsimp only [pyL];have cs:=yYk (W:=W) (F:=F) (g:=g) (d:=d) (p:=p) (i:=i+1) hE hN hg cO (hx.disk.mono (Nat.le_succ i)) o hoo kf;obtain ⟨zs0,jv⟩:∃ s,s=x.s:=⟨_,rfl⟩;obtain ⟨zt0,iW⟩:∃ s,s=x.t:=⟨_,rfl⟩;obtain ⟨gD,fV⟩:∃ s,s=x.D:=⟨_,rfl⟩;obtain ⟨zR0,jk⟩:∃ s,s=pyR n d p x:=⟨_,rfl⟩;rw [← jv,← iW,← fV,← jk];rw [← fV] at cs;by_cases k1:o.kind=1
   ·have q1:decide (o.kind=1)=true:=zY k1;repeat' (first|refine zal fun ga=>?_|refine yAi ?_;refine yAa (yBa yRx hB rfl rfl xS bD ho) ?_|refine zad (i+1) ?_|refine xqa ?_|refine xsf ?_ ?_|refine xdr 18 yOS ?_|apply zN|intro _)
    all_goals refine yAs ⟨i+1,hlt⟩ (by show S.length-(i+1)<S.length-i;omega) xB (xN)
   ·have q1:decide (o.kind=1)=false:=zZ k1;have q2:decide (o.kind=2)=true:=zY (kf.resolve_left k1);repeat' (first|refine zal fun ga=>?_|refine yAi ?_;refine yAa (yBa yRx hB rfl rfl xS bD ho) ?_|refine zad (i+1) ?_|refine xqa ?_|refine xsf ?_ ?_|refine xdr 18 yOS ?_|apply zN|intro _)
    all_goals refine yAs ⟨i+1,hlt⟩ (by show S.length-(i+1)<S.length-i;omega) xB (xN)
  ·have k1:o.kind≠1:=fun h=>kf (.inl h);have k2:o.kind≠2:=fun h=>kf (.inr h);have q1:decide (o.kind=1)=false:=zZ k1;have q2:decide (o.kind=2)=false:=zZ k2;have cs:=yTi (W:=W) (F:=F) (g:=g) (d:=d) (p:=p) (n:=n) (i:=i) hE hN hg cO zO o hoo k1 k2;repeat' (first|refine zal fun ga=>?_|refine yAi ?_;refine yAa (yBa yRx hB rfl rfl xS bD ho) ?_|refine zad (i+1) ?_|refine xqa ?_|refine xsf ?_ ?_|refine xdr 18 yOS ?_|apply zN|intro _)
   all_goals refine yAs ⟨i+1,hlt⟩ (by show S.length-(i+1)<S.length-i;omega) xB (xN)
 have ql:decide ((i:Int)<(S.length:Nat))=false:=zZ zO;refine KJ.unpack_at (F:=fun x:{x:PyX//PyOk n i x}=>pyL n g d p x.1) xS (fun ⟨x,hx⟩=>?_);dsimp only [pyL];have hk:=hx.disk;obtain ⟨zs0,jv⟩:∃ s,s=x.s:=⟨_,rfl⟩;obtain ⟨zt0,iW⟩:∃ s,s=x.t:=⟨_,rfl⟩;obtain ⟨gD,fV⟩:∃ s,s=x.D:=⟨_,rfl⟩;obtain ⟨zR0,jk⟩:∃ s,s=pyR n d p x:=⟨_,rfl⟩;rw [← jv,← iW,← fV,← jk];rw [← fV] at hk;clear jv iW fV jk hx;have c1:=yT4 (W:=W) (p:=d) (D:=gD);have c2:=yWU (W:=W) (p:=d) (D:=gD);have c3:=fun sv wv=>yTj (W:=W) (p:=p) (D:=gD) hk.ok sv wv;have c4:=yRY (W:=W) (p:=d) (D:=gD);have aS:=hk.und;refine KJ.unpack_at (F:=yCE p gD) xS (fun y=>?_);obtain ⟨sv,wv⟩:=y;rw [yAZ];refine KJ.row_slice (v:=wv) xS (fun wa wc e=>?_);subst e;have e1:decide (((gD.und.length:Nat):Int)=((gD.und.length:Nat):Int))=true:=zY rfl;have e2:decide (gD.writes=gD.writes)=true:=zY rfl;have e3:decide (gD.flushes=gD.flushes)=true:=zY rfl;repeat' (first|refine xca (c3 _ _) fun _=>?_|refine yAt ?_;refine yAa (yHG rfl rfl rfl) ?_|refine xqa ?_|refine xsf ?_ ?_|refine xdr 18 yOS ?_|exact xdn ()|apply zN|intro _)
theorem yOT (hE:ErrsAt W F) (hN:NibAt W) (hg:gB≤W.heap.size) (nI:Int) (b:Option Addr) (c:Nat) (S:List SOp) (hB:Lv W yEW 8 noP b S) (hl:S.length≤1048576) (hS:∀ x ∈ S,SOpOk W x) :CtU prog W 3 [zi nI,.slice b S.length c] [] (.bool true) []:=Ct.noP13u (yQl hE hN hg nI noP b c S hB hl hS)
end
end Go.Proofs.YtoipmnikdiogcaaGreatDoor
