/-
  SuF, SuW, SuH, SuI, SuJ, StM2, Rf11.
-/
import Derived.Test.YtoipmnikdiogcaaGreatDoorYIG
set_option maxHeartbeats 64000000
namespace Go.Proofs.YtoipmnikdiogcaaGreatDoor
open Go Go.RowKit
open Go.Proofs.Tryz
abbrev yGx:Pl:=(po [0,1,2,3,4,5] (.ef 6 [] (.op 7 .nil)))
abbrev yBt:Pl:=(po [0,1,2,3,4,5] (.ef 6 [] .nil))
abbrev zTIN0:List (Nat×Pl):=[(5,yGx),(10,yBt),(11,yBt),(13,yBt),(14,yBt)]
theorem Ct.box {P:Program} {W:World} {f:FuncId} {args:List Value} {X:Type} {r:X→Value} {C:SP} {L:List SP} {L':X→List SP} (k:Nat) (c:Ct P W f args (C::L) r (fun x=>C::L' x)):Ct P W f args [C,yDx k L] r (fun x=>[C,yDx k (L' x)]):=
 c.conv (fun R g q=>by have q1:yAH (yDx k L::C::R) g:=yIw g q;exact yCz List.perm_middle g (yCf q1)) (fun x R g q=>yIw g (yCn (key:=k) (H:=C::R) (yCz List.perm_middle.symm g q)))
theorem yGY {L1 L2 R:List SP} {C:SP} {k1 k2:Nat} {g:Hl} (q:yAH (L1++(L2++(C::R))) g):yAH (C::yDx k1 L1::yDx k2 L2::R) g:=by have q1:yAH (L2++(yDx k1 L1::C::R)) g:=yCz (show (yDx k1 L1::(L2++(C::R))).Perm (L2++(yDx k1 L1::C::R)) from List.perm_middle.symm) g (yCn (key:=k1) q);have q2:=yCn (key:=k2) q1;exact yCz (show (yDx k2 L2::yDx k1 L1::C::R).Perm (C::yDx k1 L1::yDx k2 L2::R) from ((List.Perm.swap _ _ _).trans ((List.Perm.cons _ (List.Perm.swap _ _ _)).trans ((List.Perm.swap _ _ _).trans (.refl _))))) g q2
theorem yFh {L1 L2 R:List SP} {C:SP} {k1 k2:Nat} {g:Hl} (q:yAH (C::yDx k1 L1::yDx k2 L2::R) g):yAH (L1++(L2++(C::R))) g:=by have q1:yAH (yDx k2 L2::yDx k1 L1::C::R) g:=yCz ((show (yDx k2 L2::yDx k1 L1::C::R).Perm (C::yDx k1 L1::yDx k2 L2::R) from ((List.Perm.swap _ _ _).trans ((List.Perm.cons _ (List.Perm.swap _ _ _)).trans ((List.Perm.swap _ _ _).trans (.refl _)))))).symm g q;have q2:yAH (yDx k1 L1::(L2++(C::R))) g:=yCz List.perm_middle g (yCf q1);exact yCf q2
section
variable {W:World} {F:Nat→Addr} {g d p n:Nat} {D:Dsk}
instance yZh:FnIs prog 7:=⟨zK⟩
theorem yQj (s t:Option Addr) (o:SOp) (hk:o.kind=9) (hn:o.n≤9223372036854775807) :CtU prog W 7 [zPp g,.agg (yEW o).toArray] [yBK g d p s t,DiskP d D,yA1 p D] (.bool true) [yBK g d p s t,DiskP d (D.arm o.n),yA1 p (D.arm o.n)]:=by
 have c1:=xBs (W:=W) (p:=d) (D:=D) o.n hn;have c2:=xAB (W:=W) (p:=p) (D:=D) o.n hn;obtain ⟨D2,aF⟩:∃ D2,D2=D.arm o.n:=⟨_,rfl⟩;rw [← aF] at c1 c2 ⊢;clear aF;obtain ⟨kind,on,dC,iK,oa,oc,ops,ka,kc,kept,torn,bytes⟩:=o;dsimp only at *;subst hk;unfold yEW;dsimp only;cases s with
 |none=>
  refine zE func7 ntmps7 fun R=>?_;repeat' (first|refine zbx fun gx=>?_|refine xst ?_|refine xsf ?_ ?_|refine xdt zTIN0 ?_|exact xdn ()|apply zN|intro _)
 |some a=>
  refine zE func7 ntmps7 fun R=>?_;repeat' (first|refine zbx fun gx=>?_|refine xst ?_|refine xsf ?_ ?_|refine xdt zTIN0 ?_|exact xdn ()|apply zN|intro _)
theorem yLn (s t:Option Addr) (o:SOp) (hk:o.kind=10) (am:D.ok) (aS:D.und.length≤65536) (hb:BoolsAt W (.slice o.ka o.kept.length o.kc) o.kept) :CtU prog W 7 [zPp g,.agg (yEW o).toArray] [yBK g d p s t,DiskP d D,yA1 p D] (.bool true) [yBK g d p s t,DiskP d (D.crash o.kept o.torn o.bytes),yA1 p (D.crash o.kept o.torn o.bytes)]:=by
 have c1:=yT6 (W:=W) (p:=d) (D:=D) o.torn o.bytes hb zO;have c2:=yVI (W:=W) (p:=p) (D:=D) am zO o.torn o.bytes hb;obtain ⟨D2,aF⟩:∃ D2,D2=D.crash o.kept o.torn o.bytes:=⟨_,rfl⟩;rw [← aF] at c1 c2 ⊢;clear aF;obtain ⟨kind,on,dC,iK,oa,oc,ops,ka,kc,kept,torn,bytes⟩:=o;dsimp only at *;subst hk;unfold yEW;dsimp only;cases s with
 |none=>
  refine zE func7 ntmps7 fun R=>?_;repeat' (first|refine zbx fun gx=>?_|refine xst ?_|refine xsf ?_ ?_|refine xdt zTIN0 ?_|exact xdn ()|apply zN|intro _)
 |some a=>
  refine zE func7 ntmps7 fun R=>?_;repeat' (first|refine zbx fun gx=>?_|refine xst ?_|refine xsf ?_ ?_|refine xdt zTIN0 ?_|exact xdn ()|apply zN|intro _)
theorem yTe (hE:ErrsAt W F) (hg:gB≤W.heap.size) (o:SOp) (hk:o.kind=1) (hL:Lv W opC 3 noP o.oa o.ops) (hl:o.ops.length≤2000000) (e:Nat) (he:e≤37) (D3:Dsk) (f1:∀ ya yc,CtU prog W 14 [zPp d,.slice ya o.ops.length yc] [yJt (ya,yc) o.ops,DiskP d D] (yAy F e) [yJt (ya,yc) o.ops,DiskP d D3]) (f2:CtU prog W 24 [zPp p,.slice o.oa o.ops.length o.oc] [noP,yA1 p D] (zi (e:Nat)) [noP,yA1 p D3]) :CtU prog W 7 [zPp g,.agg (yEW o).toArray] [yBK g d p none none,DiskP d D,yA1 p D] (.bool true) [yBK g d p none none,DiskP d D3,yA1 p D3]:=by
 have cc:=yFJ (W:=W) noP o.oa o.oc o.ops hL hl;have cs:=fun (ya:Option Addr) (yc:Nat)=>yKT (W:=W) (yJt (ya,yc) o.ops) noP ya o.oa yc o.oc o.ops (Lv.own (e:=58) (c:=yc) yAY rfl) hL zO;have cn:=yF7 hE hg e he;have qe:decide (((e:Nat):Int)=((e:Nat):Int))=true:=zY rfl;obtain ⟨kind,on,dC,iK,oa,oc,ops,ka,kc,kept,torn,bytes⟩:=o;dsimp only at *;subst hk;unfold yEW;dsimp only;refine zE func7 ntmps7 fun R=>?_;refine KJ.noP ?_;repeat' (first|refine zbx fun gx=>?_|refine xca (cs _ _) fun _=>?_|refine xca (f1 _ _) fun _=>?_|refine xca cc fun y=>?_;obtain ⟨ya,yc⟩:=y|refine xqa ?_|refine xsf ?_ ?_|refine xdt zTIN0 ?_|exact xdn ()|apply zN|intro _)
theorem yYj {P:SP} (o:SOp) (hk:o.kind=2) (c:CtU prog W 26 [zPp g] [yBK g d p none none,DiskP d D,yA1 p D] (.bool true) [P]) :CtU prog W 7 [zPp g,.agg (yEW o).toArray] [yBK g d p none none,DiskP d D,yA1 p D] (.bool true) [P]:=by
 obtain ⟨kind,on,dC,iK,oa,oc,ops,ka,kc,kept,torn,bytes⟩:=o;dsimp only at *;subst hk;unfold yEW;dsimp only;refine zE func7 ntmps7 fun R=>?_;repeat' (first|refine zbx fun gx=>?_|refine xst ?_|refine xsf ?_ ?_|refine xdt zTIN0 ?_|exact xdn ()|apply zN|intro _)
theorem xAT (o:SOp) (k1:o.kind≠1) (k2:o.kind≠2) (k9:o.kind≠9) (k10:o.kind≠10) :CtU prog W 7 [zPp g,.agg (yEW o).toArray] [yBK g d p none none] (.bool true) [yBK g d p none none]:=by
 have q1:decide (o.kind=1)=false:=zZ k1;have q2:decide (o.kind=2)=false:=zZ k2;have q9:decide (o.kind=9)=false:=zZ k9;have q10:decide (o.kind=10)=false:=zZ k10;unfold yEW;refine zE func7 ntmps7 fun R=>?_;repeat' (first|refine zbx fun gx=>?_|refine xqa ?_|refine xsf ?_ ?_|refine xdt zTIN0 ?_|exact xdn ()|apply zN|intro _)
theorem yRz (s:Addr) (t:Option Addr) (o:SOp) (k1:o.kind≠1) (k2:o.kind≠2) (k9:o.kind≠9) (k10:o.kind≠10) (k3:o.kind≠3) (k11:o.kind≠11) (k4:o.kind≠4) :CtU prog W 7 [zPp g,.agg (yEW o).toArray] [yBK g d p (some s) t] (.bool true) [yBK g d p (some s) t]:=by
 have q1:decide (o.kind=1)=false:=zZ k1;have q2:decide (o.kind=2)=false:=zZ k2;have q9:decide (o.kind=9)=false:=zZ k9;have q10:decide (o.kind=10)=false:=zZ k10;have q3:decide (o.kind=3)=false:=zZ k3;have q11:decide (o.kind=11)=false:=zZ k11;have q4:decide (o.kind=4)=false:=zZ k4;unfold yEW;refine zE func7 ntmps7 fun R=>?_;repeat' (first|refine zbx fun gx=>?_|refine xqa ?_|refine xsf ?_ ?_|refine xdt zTIN0 ?_|exact xdn ()|apply zN|intro _)
theorem yMb {X Y:Type} {A B:SP} {A':X→SP} {B':Y→SP} (hE:ErrsAt W F) (hg:gB≤W.heap.size) (s t:Nat) (o:SOp) (hk:o.kind=3) (hL:Lv W opC 3 noP o.oa o.ops) (hl:o.ops.length≤2000000) (e:Nat) (he:e≤37) (c1:∀ ya yc,Ct prog W 20 [zPp s,.slice ya o.ops.length yc] [yJt (ya,yc) o.ops,A] (fun _:X=>yAy F e) (fun x=>[yJt (ya,yc) o.ops,A' x])) (c2:Ct prog W 32 [zPp t,.slice o.oa o.ops.length o.oc] [noP,B] (fun _:Y=>.int .i64 (e:Nat)) (fun y=>[noP,B' y])) :Ct prog W 7 [zPp g,.agg (yEW o).toArray] [yBK g d p (zq s) (zq t),A,B] (fun _:X × Y=>.bool true) (fun z=>[yBK g d p (zq s) (zq t),A' z.1,B' z.2]):=by
 have cn:=yF7 hE hg e he;have qe:decide (((e:Nat):Int)=((e:Nat):Int))=true:=zY rfl;have cc:=yFJ (W:=W) noP o.oa o.oc o.ops hL hl;have cs:=fun (ya:Option Addr) (yc:Nat)=>yKT (W:=W) (yJt (ya,yc) o.ops) noP ya o.oa yc o.oc o.ops (Lv.own (e:=58) (c:=yc) yAY rfl) hL zO;obtain ⟨kind,on,dC,iK,oa,oc,ops,ka,kc,kept,torn,bytes⟩:=o;dsimp only at *;subst hk;unfold yEW;dsimp only;refine zE func7 ntmps7 fun R=>?_;refine KJ.noP ?_;repeat' (first|refine zbx fun gx=>?_|(refine yAb ?_;first|refine xca (cs _ _) fun _=>?_|refine xca c2 fun y=>?_|refine xca (c1 _ _) fun x=>?_|refine xca cc fun y=>?_;obtain ⟨ya,yc⟩:=y)|refine xqa ?_|refine xsf ?_ ?_|refine xdt zTIN0 ?_|apply zN|intro _)
 all_goals (exact xdn (x,y))
theorem yRA {X Y:Type} {A B:SP} {A':X→SP} {B':Y→SP} (hE:ErrsAt W F) (hg:gB≤W.heap.size) (s t:Nat) (o:SOp) (hk:o.kind=11) (am:o.key.length+1≤1048576) (e:Nat) (he:e≤37) (c1:∀ ya yc,Ct prog W 20 [zPp s,.slice ya (yFU o).length yc] [yJt (ya,yc) (yFU o),A] (fun _:X=>yAy F e) (fun x=>[yJt (ya,yc) (yFU o),A' x])) (c2:∀ ma mc,Ct prog W 32 [zPp t,.slice ma (yFU o).length mc] [yJt (ma,mc) (yFU o),B] (fun _:Y=>.int .i64 (e:Nat)) (fun y=>[yJt (ma,mc) (yFU o),B' y])) :Ct prog W 7 [zPp g,.agg (yEW o).toArray] [yBK g d p (zq s) (zq t),A,B] (fun _:X × Y=>.bool true) (fun z=>[yBK g d p (zq s) (zq t),A' z.1,B' z.2]):=by
 have cn:=yF7 hE hg e he;have qe:decide (((e:Nat):Int)=((e:Nat):Int))=true:=zY rfl;have gd:(yFU o).length≤40:=by unfold yFU;rw [yLm];exact (yRy o.n).2
 have cm:=yWl (W:=W) o am;obtain ⟨l,hl⟩:∃ l,l=yFU o:=⟨_,rfl⟩;rw [← hl] at cm c1 gd;simp only [← hl] at c2;clear hl;have cc:=fun (ma:Option Addr) (mc:Nat)=>yFJ (W:=W) (yJt (ma,mc) l) ma mc l (Lv.own (e:=58) (c:=mc) yAY rfl) zO;have cs:=fun (ma:Option Addr) (mc:Nat) (ya:Option Addr) (yc:Nat)=>yKT (W:=W) (yJt (ya,yc) l) (yJt (ma,mc) l) ya ma yc mc l (Lv.own (e:=58) (c:=yc) yAY rfl) (Lv.own (e:=58) (c:=mc) yAY rfl) zO;have eH:=hk;obtain ⟨kind,on,dC,iK,oa,oc,ops,ka,kc,kept,torn,bytes⟩:=o;dsimp only at eH;subst eH;unfold yEW at cm ⊢;dsimp only at cm ⊢;refine zE func7 ntmps7 fun R=>?_;repeat' (first|refine zbx fun gx=>?_|(refine yAb ?_;first|refine xca (cs _ _ _ _) fun _=>?_|refine xca (c2 _ _) fun y=>?_|refine xca (c1 _ _) fun x=>?_|refine xca (cc _ _) fun y=>?_;obtain ⟨ya,yc⟩:=y|refine xca cm fun m=>?_;obtain ⟨ma,mc⟩:=m)|refine xqa ?_|refine xsf ?_ ?_|refine xdt zTIN0 ?_|apply zN|intro _)
 all_goals (exact xdn (x,y))
theorem yLo {X Y:Type} {A B:SP} {A':X→SP} {B':Y→SP} (hE:ErrsAt W F) (hg:gB≤W.heap.size) (s t:Nat) (o:SOp) (hk:o.kind=4) (e:Nat) (he:e≤37) (c1:Ct prog W 33 [zPp s] [A] (fun _:X=>yAy F e) (fun x=>[A' x])) (c2:Ct prog W 34 [zPp t] [B] (fun _:Y=>.int .i64 (e:Nat)) (fun y=>[B' y])) :Ct prog W 7 [zPp g,.agg (yEW o).toArray] [yBK g d p (zq s) (zq t),A,B] (fun _:X × Y=>.bool true) (fun z=>[yBK g d p (zq s) (zq t),A' z.1,B' z.2]):=by
 have cn:=yF7 hE hg e he;have qe:decide (((e:Nat):Int)=((e:Nat):Int))=true:=zY rfl;obtain ⟨kind,on,dC,iK,oa,oc,ops,ka,kc,kept,torn,bytes⟩:=o;dsimp only at *;subst hk;unfold yEW;dsimp only;refine zE func7 ntmps7 fun R=>?_;repeat' (first|refine zbx fun gx=>?_|refine xca c2 fun y=>?_|refine xca c1 fun x=>?_|refine xqa ?_|refine xsf ?_ ?_|refine xdt zTIN0 ?_|apply zN|intro _)
 all_goals (exact xdn (x,y))
end
section
variable {W:World} {F:Nat→Addr} {n s:Nat}
theorem yOQ {d q g v:Nat} {D:Dsk} {N:List Nd} {a:Option Addr} {b:Int} (aj:Still D) (dR:CtU prog W 51 [zPp s] [stP s d q n (v:Nat) (zq g) D.life false,DiskP d D,tbP q a b,arP N] (yAy F 16) [stP s d q n (v:Nat) (zq g) D.life false,DiskP d D,tbP q a b,arP N]) :CtU prog W 33 [zPp s] [stP s d q n (v:Nat) (zq g) D.life false,DiskP d D,tbP q a b,arP N] (yAy F 16) [stP s d q n (v:Nat) (zq g) D.life false,DiskP d D,tbP q a b,arP N]:=by
 have bz:yBi D D.life false=false:=by unfold yBi;rw [aj.on];simp
 have j0:=yKK (W:=W) (s:=s) (d:=d) (q:=q) (n:=n) (v:Nat) (zq g) D.life bz;refine zE func33 ntmps33 fun R=>?_;repeat' (first|refine xca dR fun x=>?_|refine xst ?_|refine xsf ?_ ?_|exact xdn ()|intro _)
end
abbrev yTf (n d s q gj:Nat) (D:Dsk) (N:List Nd) (a:Option Addr) (b:Int) (v used:Nat):List SP:=[stP s d q n (v:Nat) (zq gj) D.life false,DiskP d D,tbP q a b,arP N,yPX gj d n v used D.life]
abbrev yTg (n p t rj:Nat) (D:Dsk) (r:Rows) (ra:Option Addr) (rc v used:Nat):List SP:=[yAO (ra,rc) r,rsP t p n ra r.length rc (v:Nat) (zq rj) D.life false,yA1 p D,rjP rj p n v used false D.life]
theorem yOR {W:World} {F:Nat→Addr} {d p n i:Nat} {D:Dsk} (hE:ErrsAt W F) (hN:NibAt W) (h2:n≤3000) (hk:DkOk n i D) (A:SP) (oa:Option Addr) (oc:Nat) (ops:List BOp) (hA:Lv W opC 3 A oa ops) (hf:OpsFit ops) :∃ (e:Nat) (D3:Dsk),e≤37∧DkOk n i D3∧(∀ ya yc,CtU prog W 14 [zPp d,.slice ya ops.length yc] [yJt (ya,yc) ops,DiskP d D] (yAy F e) [yJt (ya,yc) ops,DiskP d D3])∧ CtU prog W 24 [zPp p,.slice oa ops.length oc] [A,yA1 p D] (zi (e:Nat)) [A,yA1 p D3]:=by
 have aq:ErrsOn L16 W F:=hE.to16;have ay:ErrsOn L8 W F:=aq.to8;have fp:=hf.len;have hn:=hk.nn;by_cases h1:64≤n;rotate_left
 ·exact ⟨13,D,zO,hk,fun ya yc=>yNq _ aq zO hn ya ops.length yc,yLi A zO hn oa ops.length oc⟩
 rcases hk.way with ho|aj
 ·exact ⟨12,D,zO,hk,fun ya yc=>yQf _ aq h1 hn ho ya ops.length yc,yNs A h1 zO hn ho oa ops.length oc⟩
 rcases yOJ aj zO with h0|h0
 ·exact ⟨21,D,zO,hk,fun ya yc=>yKS aq ay hN h1 zO hn aj.on h0 _ ya yc ops.length,yNp A h1 h2 aj hn h0 oa ops.length oc⟩
 obtain ⟨r,hr⟩:∃ r,yAP [] ops=r:=⟨_,rfl⟩;have bH:(yAk r).length≤4611686018427387904:=by rw [← hr];exact hf.snap List.Pairwise.nil (by show (1:Nat)≤_;omega)
 have cd:=yOH (W:=W) (p:=p) (D:=D) h1 h2 aj hn h0 A oa oc ops hA zO hr bH;by_cases cM:234*yAA n<(yAk r).length
 ·exact ⟨17,D,zO,hk,fun ya yc=>yOI aq ay hN h1 zO aj hn h0 _ ya yc ops (Lv.own (e:=58) (c:=yc) yAY rfl) zO hr cM bH,cd.1 cM⟩
 ·have ak:(yAk r).length≤234*yAA n:=by omega
  have fw:=yC7 aj hn h1 zO 0 zO r ak;refine ⟨yDW D n 0 r,yCk D n 0 r,?_,⟨fw.ok,fw.nn,fw.und,?_,by rw [fw.life];exact hk.life⟩,fun ya yc=>?_,cd.2 ak⟩
  ·rcases fw.way with ⟨q,-⟩|⟨q,-⟩ <;> rw [q] <;> omega
  ·rcases fw.way with ⟨-,q⟩|⟨-,q⟩
   ·exact .inr q
   ·exact .inl q
  ·exact yQd (W:=W) (F:=F) (d:=d) ay hN h1 zO aj hn h0 (yJt (ya,yc) ops) ya yc ops (Lv.own (e:=58) (c:=yc) yAY rfl) zO hr ak
section
variable {W:World} {F:Nat→Addr} {g d p n i:Nat}
theorem yTh (hE:ErrsAt W F) (hN:NibAt W) (hg:gB≤W.heap.size) (h2:n≤3000) {D:Dsk} (hk:DkOk n i D) :CtU prog W 26 [zPp g] [yBK g d p none none,DiskP d D,yA1 p D] (.bool true) [PyP n g d p i]:=by
 have aq:ErrsOn L16 W F:=hE.to16;have hn:=hk.nn
 have fail:∀ (e:Nat) (D2:Dsk),1≤e∧e≤37→DkOk n i D2→CtU prog W 13 [zPp d] [DiskP d D] (.tuple #[.pointer none,yAy F e]) [DiskP d D2]→
  CtU prog W 69 [zPp p] [yA1 p D] (.tuple #[.pointer none,zi (e:Nat)]) [yA1 p D2]→
  CtU prog W 26 [zPp g] [yBK g d p none none,DiskP d D,yA1 p D] (.bool true) [PyP n g d p i]:=fun e D2 he aW co cr=>
  (yWg (W:=W) (F:=F) (g:=g) hE hg e he co cr none none).to id (fun _=>rfl) (fun _ R q s=>yYh (x:=.no D2) aW q s)
 by_cases h1:64≤n;rotate_left
 ·exact fail 13 D zO hk (yQe aq zO hn) (yNo zO hn)
 rcases hk.way with ho|aj
 ·exact fail 12 D zO hk (yWk aq h1 hn ho) (yQg h1 zO hn ho)
 rcases ySM aj.on hn h1 zO with ⟨r0,ab,v,r,hL⟩|⟨e,hB⟩;rotate_left
 ·obtain ⟨ao,-⟩:=yL8 (W:=W) (p:=p) h1 h2 aj hn e hB;exact fail e D ⟨zO,hB.le aj zO⟩ hk (yV4 hE hN h1 zO hn aj.on e hB) (yS9 h1 h2 aj hn e hB)
 have c1:=yS7 (W:=W) (F:=F) (d:=d) hE hN h1 zO aj hn hL;have c2:=yTa (W:=W) (p:=p) h1 h2 aj hn hL;by_cases h0:yS6 D n v r=0;rotate_left
 ·have aF:yS6 D n v r≤37∧DkOk n i (yOG D n v r):=by
   unfold yS6 yOG;by_cases hw:1099511627776≤v
   ·rw [if_pos hw,if_pos hw];exact ⟨zO,hk⟩
   ·rw [if_neg hw,if_neg hw];have fw:=yC7 aj hn h1 zO v zO r hL.room;refine ⟨?_,fw.ok,fw.nn,fw.und,?_,by rw [fw.life];exact hk.life⟩
    ·rcases fw.way with ⟨q,-⟩|⟨q,-⟩ <;> rw [q] <;> omega
    ·rcases fw.way with ⟨-,q⟩|⟨-,q⟩
     ·exact .inr q
     ·exact .inl q
  exact fail _ _ ⟨zO,aF.1⟩ aF.2 (c1.1 h0) (c2.1 h0)
 have eA:=hL.v1;have hw:¬ 1099511627776≤v:=fun hw=>by unfold yS6 at h0;rw [if_pos hw] at h0;cases h0
 have h00:=h0;unfold yS6 at h00;rw [if_neg hw] at h00;have fw:=yC7 aj hn h1 zO v zO r hL.room;have io:Still (yOG D n v r):=by
  unfold yOG;rw [if_neg hw];rcases fw.way with ⟨-,q⟩|⟨q,-⟩
  ·exact q
  ·rw [h00] at q;cases q
 have d7:(yOG D n v r).life=D.life:=by unfold yOG;rw [if_neg hw];exact fw.life
 have aW:DkOk n i (yOG D n v r):=⟨io.ok,by unfold yOG;rw [if_neg hw];exact fw.nn,by rw [io.und];simp,.inr io,by rw [d7];exact hk.life⟩;have c:=yWh (W:=W) (F:=F) (g:=g) hE hg v (c1.2 h0) (c2.2 h0) none none;obtain ⟨D2,aF⟩:∃ D2,D2=yOG D n v r:=⟨_,rfl⟩;rw [← aF] at c io d7 aW;refine c.to (fun _=>()) (fun _=>rfl) (fun z R q s=>?_);obtain ⟨⟨s1,⟨q1,⟨⟨N,ta,tb⟩,gN,hT⟩⟩,gj⟩,⟨t1,⟨ra,rc⟩,rj⟩⟩:=z;refine yYh (x:=.live D2 s1 q1 gj t1 rj N ta tb r ra rc (v+1) 0) ⟨aW,⟨h1,hT,hT.ris,hL.room,zO⟩,io,zLA _⟩ q ?_;show yAH (_++([yBK g d p (zq s1) (zq t1),DiskP d D2,yA1 p D2]++R)) q;unfold pyR;dsimp only;rw [d7];rw [d7] at s;exact (xN) q s
end
section
variable {W:World} {F:Nat→Addr} {g d p n i:Nat}
theorem yLp (D:Dsk) (life:Int):yBi D life true=true:=by unfold yBi;simp
theorem DkOk.off {n i:Nat} {D D2:Dsk} (h:DkOk n i D) (ok:D2.ok) (nn:D2.n=n) (und:D2.und.length≤65536) (ho:D2.off=true) (hl:D2.life=D.life):DkOk n i D2:=⟨ok,nn,und,.inl ho,by rw [hl];exact h.life⟩
theorem DkOk.still {n i:Nat} {D D2:Dsk} (h:DkOk n i D) (nn:D2.n=n) (hs:Still D2) (hl:D2.life=D.life):DkOk n i D2:=⟨hs.ok,nn,by rw [hs.und];simp,.inr hs,by rw [hl];exact h.life⟩
theorem yJo (hE:ErrsAt W F) (hN:NibAt W) (h2:n≤176) {D:Dsk} {s q gj t rj:Nat} {N:List Nd} {a:Option Addr} {b:Int} {r:Rows} {ra:Option Addr} {rc v used:Nat} (hx:PyOk n i (.live D s q gj t rj N a b r ra rc v used)) (l:List BOp) (hf:OpsFit l) :∃ (e:Nat) (X Y:Type) (L1:X→List SP) (L2:Y→List SP) (y:X→Y→{y:PyX//PyOk n i y}),e≤37∧ (∀ ya yc,Ct prog W 20 [zPp s,.slice ya l.length yc] (yJt (ya,yc) l::yTf n d s q gj D N a b v used) (fun _:X=>yAy F e) (fun x=>yJt (ya,yc) l::L1 x))∧ (∀ (B:SP) ob oc,Lv W opC 3 B ob l→Ct prog W 32 [zPp t,.slice ob l.length oc] (B::yTg n p t rj D r ra rc v used) (fun _:Y=>.int .i64 (e:Nat)) (fun z=>B::L2 z))∧ (∀ x z R h,yAH (L1 x++(L2 z++(yBK g d p (zq s) (zq t)::R))) h→yAH (pyR n d p (y x z).1++([yBK g d p (y x z).1.s (y x z).1.t,DiskP d (y x z).1.D,yA1 p (y x z).1.D]++R)) h):=by
 obtain ⟨hd,⟨h1,hT,hr,ah,hv⟩,aj,d4⟩:=hx;have hn:=hd.nn;have kB:=hf.len;have jZ:yAP r (yAR l)=yAP r l:=yPG hr l;obtain ⟨du,jp⟩:=yIh ah zO;have hsa:=hf.snap hr zO;obtain ⟨o,hO⟩:∃ o,o=cmO n D r v used l:=⟨_,rfl⟩;have ok:=xCi aj hn h1 zO hr ah hv d4 l hO;have c1:=fun ya yc=>yQi (W:=W) (F:=F) (s:=s) (d:=d) (q:=q) (g0:=gj) (tb:=b) hE hN h1 zO aj hn hT ah v used hv d4 (yJt (ya,yc) l) ya yc l (Lv.own (e:=58) (c:=yc) yAY rfl) zO hf.enc (by rw [jZ];exact hsa) hO;have c2:=fun B ob oc hB=>yNr (W:=W) (p:=p) (t:=t) (rj:=rj) h1 zO aj hn ra rc hr ah v used hv d4 B ob oc l hB zO hf.enc (by rw [jZ];exact hsa) hO;obtain ⟨e,D2,r2,w,k,dead⟩:=o;obtain ⟨oe,onn,g9,ook,ound,oway,jS,oris,ov1,ous⟩:=ok;dsimp only at *;cases dead with
 |true=>
  have ho:D2.off=true:=by
   rcases oway with ⟨-,h⟩|⟨h,-⟩
   ·exact h
   ·cases h
  refine ⟨e,TbQ N r2 × Nat,(Option Addr × Nat) × Nat,_,_,fun x z=>⟨.gone D2 s q t x.1.1.1 x.1.1.2.1 x.1.1.2.2 r2 z.1.1 z.1.2 w D.life true (some ⟨x.2,0,none⟩) (some ⟨z.2,0,none⟩),hd.off ook onn ound ho g9,⟨h1,x.1.2.2,oris,jS,ov1⟩,yLp _ _,zO⟩,oe,c1,c2,fun x z R h qq=>?_⟩;dsimp only;unfold pyR PyX.s PyX.t PyX.D;dsimp only;rw [← zLd];exact (xN) h qq
 |false=>
  have hs:Still D2:=by
   rcases oway with ⟨h,-⟩|⟨-,h⟩
   ·cases h
   ·exact h
  refine ⟨e,TbQ N r2 × Nat,(Option Addr × Nat) × Nat,_,_,fun x z=>⟨.live D2 s q x.2 t z.2 x.1.1.1 x.1.1.2.1 x.1.1.2.2 r2 z.1.1 z.1.2 w k,hd.still onn hs g9,⟨h1,x.1.2.2,oris,jS,ov1⟩,hs,ous⟩,oe,c1,c2,fun x z R h qq=>?_⟩;dsimp only;unfold pyR PyX.s PyX.t PyX.D;dsimp only;rw [g9,← zLd];unfold ifP at qq;exact (xN) h qq
theorem yNt (hE:ErrsAt W F) (hN:NibAt W) (h2:n≤176) {D:Dsk} {s q gj t rj:Nat} {N:List Nd} {a:Option Addr} {b:Int} {r:Rows} {ra:Option Addr} {rc v used:Nat} (hx:PyOk n i (.live D s q gj t rj N a b r ra rc v used)) :∃ (e:Nat) (X Y:Type) (L1:X→List SP) (L2:Y→List SP) (y:X→Y→{y:PyX//PyOk n i y}),e≤37∧ (Ct prog W 33 [zPp s] (yTf n d s q gj D N a b v used) (fun _:X=>yAy F e) (fun x=>L1 x))∧ (Ct prog W 34 [zPp t] (yTg n p t rj D r ra rc v used) (fun _:Y=>.int .i64 (e:Nat)) (fun z=>L2 z))∧ (∀ x z R h,yAH (L1 x++(L2 z++(yBK g d p (zq s) (zq t)::R))) h→yAH (pyR n d p (y x z).1++([yBK g d p (y x z).1.s (y x z).1.t,DiskP d (y x z).1.D,yA1 p (y x z).1.D]++R)) h):=by
 obtain ⟨hd,⟨h1,hT,hr,ah,hv⟩,aj,d4⟩:=hx;have aq:ErrsOn L16 W F:=hE.to16;have ay:ErrsOn L8 W F:=aq.to8;have hn:=hd.nn;have hRo:Lv W rC 2 (yAO (ra,rc) r) ra r:=Lv.own (e:=64) (c:=rc) yBp rfl;by_cases hw:1099511627776≤v
 ·have fo:=yLe (W:=W) (F:=F) (s:=s) (d:=d) (q:=q) (n:=n) (D:=D) (N:=N) (a:=a) (b:=b) aq (v:Nat) zO (zq gj) D.life false;have nx:=yGw (W:=W) (t:=t) (p:=p) (n:=n) (v:Nat) zO ra r.length rc (zq rj) D.life false;have ku:=(nx.frm [yAO (ra,rc) r,yA1 p D]).conv (A':=[yAO (ra,rc) r,rsP t p n ra r.length rc (v:Nat) (zq rj) D.life false,yA1 p D]) (B':=fun _=>[yAO (ra,rc) r,rsP t p n ra r.length rc (v:Nat) (zq rj) D.life false,yA1 p D]) (fun R=>(xN)) (fun _ R=>(xN));have c1:=(yOQ (W:=W) (F:=F) aj fo).frm [yPX gj d n v used D.life];have c2:=(yEV (W:=W) (t:=t) aj ra r.length rc (v:Nat) (zq rj) ku).frm [rjP rj p n v used false D.life];exact ⟨16,Unit,Unit,_,_,fun _ _=>⟨.live D s q gj t rj N a b r ra rc v used,hd,⟨h1,hT,hr,ah,hv⟩,aj,d4⟩,zO,c1,c2,fun x _ R h qq=>by (dsimp only;unfold pyR PyX.s PyX.t PyX.D;dsimp only;rw [← zLd];exact (xN) h qq)⟩
 have fw:=yC7 aj hn h1 zO v zO r ah;have fo:=yLd (W:=W) (F:=F) (s:=s) (d:=d) (q:=q) (b:=b) (D:=D) (r:=r) ay hN h1 zO aj hn v zO (zq gj) D.life hT ah;have nx:=yI1 (W:=W) (t:=t) (p:=p) (D:=D) (yAO (ra,rc) r) ra rc hRo h1 zO aj hn v zO (zq rj) D.life ah;have jG:=fw.nn;have gC:=fw.life;have fwo:=fw.ok;have fwu:=fw.und;rcases fw.way with ⟨z0,zs⟩|⟨z0,zo⟩
 ·have fo0:=fo.2 z0;have nx0:=nx.2 z0;obtain ⟨D2,aF⟩:∃ D2,D2=yCk D n v r:=⟨_,rfl⟩;rw [← aF] at fo0 nx0 jG gC zs;have c1:=yOO (W:=W) aj fo0;have c2:=yEV (W:=W) (t:=t) (e:=0) aj ra r.length rc (v:Nat) (zq rj) nx0;refine ⟨0,Nat,Nat,_,_,fun x z=>⟨.live D2 s q x t z N a b r ra rc (v+1) 0,hd.still jG zs gC,⟨h1,hT,hr,ah,zO⟩,zs,zLA _⟩,zO,(c1.frm [yPX gj d n v used D.life]),(c2.frm [rjP rj p n v used false D.life]),fun x z R h qq=>?_⟩;dsimp only;unfold pyR PyX.s PyX.t PyX.D;dsimp only;rw [gC] at qq;rw [gC,← zLd];exact (xN) h qq
 ·have fo2:=fo.1 z0;have ku:=nx.1 z0;obtain ⟨D2,aF⟩:∃ D2,D2=yCk D n v r:=⟨_,rfl⟩;rw [← aF] at fo2 ku jG gC fwo fwu zo;have c1:=(yON (W:=W) (F:=F) aj fo2).frm [yPX gj d n v used D.life];have c2:=(yEV (W:=W) (t:=t) (e:=12) aj ra r.length rc (v:Nat) (zq rj) ku).frm [rjP rj p n v used false D.life];exact ⟨12,Unit,Unit,_,_,fun _ _=>⟨.gone D2 s q t N a b r ra rc v D.life true (zq gj) (zq rj),hd.off fwo jG fwu zo gC,⟨h1,hT,hr,ah,hv⟩,yLp _ _,zO⟩,zO,c1,c2,fun x z R h qq=>by (dsimp only;unfold pyR PyX.s PyX.t PyX.D;dsimp only;rw [← zLd];exact (xN) h qq)⟩
end
section
variable {W:World} {F:Nat→Addr} {g d p n i:Nat}
theorem yYk (hE:ErrsAt W F) (hN:NibAt W) (hg:gB≤W.heap.size) (h2:n≤176) {D:Dsk} (hk:DkOk n i D) (o:SOp) (ho:SOpOk W o) (hf:o.kind=1∨o.kind=2) :CtU prog W 7 [zPp g,.agg (yEW o).toArray] [yBK g d p none none,DiskP d D,yA1 p D] (.bool true) [PyP n g d p i]:=by
 have hL:Lv W opC 3 noP o.oa o.ops:=Lv.old yAY ho.lies;have kB:=ho.fit.len;by_cases k1:o.kind=1
 ·obtain ⟨e,D3,he,hk3,f1,f2⟩:=yOR (W:=W) (F:=F) (d:=d) (p:=p) hE hN zO hk noP o.oa o.oc o.ops hL ho.fit;exact (yTe (g:=g) hE hg o k1 hL zO e he D3 f1 f2).to id (fun _=>rfl) (fun _ R q s=>yYh (x:=.no D3) hk3 q s)
 ·have k2:o.kind=2:=hf.resolve_left k1;exact yYj o k2 (yTh hE hN hg zO hk)
theorem yTi (hE:ErrsAt W F) (hN:NibAt W) (hg:gB≤W.heap.size) (h2:n≤176) (hi:i≤4000000) (o:SOp) (ho:SOpOk W o) (k1:o.kind≠1) (k2:o.kind≠2) :CtU prog W 7 [zPp g,.agg (yEW o).toArray] [PyP n g d p i] (.bool true) [PyP n g d p (i+1)]:=by
 have aq:ErrsOn L16 W F:=hE.to16;have ay:ErrsOn L8 W F:=aq.to8;have hL:Lv W opC 3 noP o.oa o.ops:=Lv.old yAY ho.lies;have kB:=ho.fit.len;have kn:=ho.key;have eO:=ho.num.2;refine xCn fun x hx=>?_;cases x with
 |no D=>
  by_cases k9:o.kind=9
  ·refine ⟨Unit,fun _=>⟨.no (D.arm o.n),(DkOk.arm hx o.n eO).mono zO⟩,?_⟩;exact (yQj (g:=g) (d:=d) (p:=p) (D:=D) none none o k9 eO).conv (fun R=>(xN)) (fun _ R=>(xN))
  by_cases k10:o.kind=10
  ·refine ⟨Unit,fun _=>⟨.no (D.crash o.kept o.torn o.bytes),(DkOk.crash hx hi o.kept o.torn o.bytes).1⟩,?_⟩;exact (yLn (g:=g) (d:=d) (p:=p) (D:=D) none none o k10 hx.ok hx.und ho.kept).conv (fun R=>(xN)) (fun _ R=>(xN))
  refine ⟨Unit,fun _=>⟨.no D,DkOk.mono hx zO⟩,?_⟩;exact ((xAT (g:=g) (d:=d) (p:=p) o k1 k2 k9 k10).frm [DiskP d D,yA1 p D]).conv (fun R=>(xN)) (fun _ R=>(xN))
 |live D s q gj t rj N a b r ra rc v used=>
  have eI:=hx;obtain ⟨hd,hh,aj,d4⟩:=eI;by_cases k9:o.kind=9
  ·refine ⟨Unit,fun _=>⟨.live (D.arm o.n) s q gj t rj N a b r ra rc v used,(hd.arm o.n eO).mono zO,hh,yN0 aj o.n eO,d4⟩,?_⟩;exact ((yQj (g:=g) (d:=d) (p:=p) (D:=D) (zq s) (zq t) o k9 eO).frm (yOP n d p s q t N a b r ra rc v D.life false (zq gj) (zq rj)++[yPX gj d n v used D.life,rjP rj p n v used false D.life])).conv (fun R=>(xN)) (fun _ R=>(xN))
  by_cases k10:o.kind=10
  ·obtain ⟨w1,w2,w3⟩:=hd.crash hi o.kept o.torn o.bytes;refine ⟨Unit,fun _=>⟨.gone (D.crash o.kept o.torn o.bytes) s q t N a b r ra rc v D.life false (zq gj) (zq rj),w1,hh,yMa zO w2,zO⟩,?_⟩;exact ((yLn (g:=g) (d:=d) (p:=p) (D:=D) (zq s) (zq t) o k10 hd.ok hd.und ho.kept).frm (yOP n d p s q t N a b r ra rc v D.life false (zq gj) (zq rj))).conv (fun R=>(xN)) (fun _ R=>(xN))
  by_cases k3:o.kind=3
  ·obtain ⟨e,X,Y,L1,L2,y,he,c1,c2,post⟩:=yJo (W:=W) (F:=F) (g:=g) (d:=d) (p:=p) hE hN h2 hx o.ops ho.fit;refine ⟨X × Y,fun z=>⟨(y z.1 z.2).1,(y z.1 z.2).2.mono zO⟩,?_⟩;have c:=yMb (W:=W) (F:=F) (g:=g) (d:=d) (p:=p) hE hg s t o k3 hL zO e he (fun ya yc=>(c1 ya yc).box 41) ((c2 noP o.oa o.oc hL).box 42);refine c.conv (fun R h q'=>yGY (R:=R) ?_) (fun z R h q'=>?_)
   ·have e:yAH ((yTf n d s q gj D N a b v used++(yTg n p t rj D r ra rc v used++[yBK g d p (zq s) (zq t)]))++R) h:=(xN) h q';rw [zLd,zLd] at e;exact e
   ·rw [zLd];exact post z.1 z.2 R h (yFh (R:=R) q')
  by_cases k11:o.kind=11
  ·obtain ⟨e,X,Y,L1,L2,y,he,c1,c2,post⟩:=yJo (W:=W) (F:=F) (g:=g) (d:=d) (p:=p) hE hN h2 hx (yFU o) (yYg kn ho.hi);refine ⟨X × Y,fun z=>⟨(y z.1 z.2).1,(y z.1 z.2).2.mono zO⟩,?_⟩;have c:=yRA (W:=W) (F:=F) (g:=g) (d:=d) (p:=p) hE hg s t o k11 kn e he (fun ya yc=>(c1 ya yc).box 41) (fun ma mc=>(c2 (yJt (ma,mc) (yFU o)) ma mc (Lv.own (e:=58) (c:=mc) yAY rfl)).box 42);refine c.conv (fun R h q'=>yGY (R:=R) ?_) (fun z R h q'=>?_)
   ·have e:yAH ((yTf n d s q gj D N a b v used++(yTg n p t rj D r ra rc v used++[yBK g d p (zq s) (zq t)]))++R) h:=(xN) h q';rw [zLd,zLd] at e;exact e
   ·rw [zLd];exact post z.1 z.2 R h (yFh (R:=R) q')
  by_cases k4:o.kind=4
  ·obtain ⟨e,X,Y,L1,L2,y,he,c1,c2,post⟩:=yNt (W:=W) (F:=F) (g:=g) (d:=d) (p:=p) hE hN h2 hx;refine ⟨X × Y,fun z=>⟨(y z.1 z.2).1,(y z.1 z.2).2.mono zO⟩,?_⟩
   have c:=yLo (W:=W) (F:=F) (g:=g) (d:=d) (p:=p) (A:=yDx 41 (yTf n d s q gj D N a b v used)) (B:=yDx 42 (yTg n p t rj D r ra rc v used)) (A':=fun x=>yDx 41 (L1 x)) (B':=fun x=>yDx 42 (L2 x)) hE hg s t o k4 e he
    (c1.conv (fun R h q=>yCf q) (fun x R h q=>yCn q)) (c2.conv (fun R h q=>yCf q) (fun x R h q=>yCn q))
   refine c.conv (fun R h q'=>yGY (R:=R) ?_) (fun z R h q'=>?_)
   ·have e:yAH ((yTf n d s q gj D N a b v used++(yTg n p t rj D r ra rc v used++[yBK g d p (zq s) (zq t)]))++R) h:=(xN) h q';rw [zLd,zLd] at e;exact e
   ·rw [zLd];exact post z.1 z.2 R h (yFh (R:=R) q')
  refine ⟨Unit,fun _=>⟨.live D s q gj t rj N a b r ra rc v used,hx.mono zO⟩,?_⟩;exact ((yRz (g:=g) (d:=d) (p:=p) ⟨s,0,none⟩ (zq t) o k1 k2 k9 k10 k3 k11 k4).frm (DiskP d D::yA1 p D::(yOP n d p s q t N a b r ra rc v D.life false (zq gj) (zq rj)++[yPX gj d n v used D.life,rjP rj p n v used false D.life]))).conv (fun R=>(xN)) (fun _ R=>(xN))
 |gone D s q t N a b r ra rc v life dead lg dj=>
  have eI:=hx;obtain ⟨hd,hh,bz,d7⟩:=eI;by_cases k9:o.kind=9
  ·refine ⟨Unit,fun _=>⟨.gone (D.arm o.n) s q t N a b r ra rc v life dead lg dj,(hd.arm o.n eO).mono zO,hh,bz,d7⟩,?_⟩;exact ((yQj (g:=g) (d:=d) (p:=p) (D:=D) (zq s) (zq t) o k9 eO).frm (yOP n d p s q t N a b r ra rc v life dead lg dj)).conv (fun R=>(xN)) (fun _ R=>(xN))
  by_cases k10:o.kind=10
  ·obtain ⟨w1,w2,w3⟩:=hd.crash hi o.kept o.torn o.bytes;refine ⟨Unit,fun _=>⟨.gone (D.crash o.kept o.torn o.bytes) s q t N a b r ra rc v life dead lg dj,w1,hh,yMa d7 w2,zO⟩,?_⟩;exact ((yLn (g:=g) (d:=d) (p:=p) (D:=D) (zq s) (zq t) o k10 hd.ok hd.und ho.kept).frm (yOP n d p s q t N a b r ra rc v life dead lg dj)).conv (fun R=>(xN)) (fun _ R=>(xN))
  have cH:PyOk n (i+1) (.gone D s q t N a b r ra rc v life true lg dj):=⟨hd.mono zO,hh,yLp _ _,d7⟩;have c1:=fun (B:SP) (oa:Option Addr) (ol oc:Nat)=>yQh (W:=W) (F:=F) (s:=s) (d:=d) (q:=q) (n:=n) (D:=D) ay (v:Nat) lg life dead bz B oa ol oc;have c2:=fun (B:SP) (oa:Option Addr) (ol oc:Nat)=>yLk (W:=W) (t:=t) (p:=p) (n:=n) (D:=D) ra r.length rc (v:Nat) dj life dead bz B oa ol oc;by_cases k3:o.kind=3
  ·refine ⟨Unit × Unit,fun _=>⟨_,cH⟩,?_⟩;have c:=yMb (W:=W) (F:=F) (g:=g) (d:=d) (p:=p) hE hg s t o k3 hL zO 12 zO (fun ya yc=>(c1 _ ya _ yc).box 41) ((c2 noP o.oa o.ops.length o.oc).box 42);refine (c.frm [tbP q a b,arP N,yAO (ra,rc) r]).conv (fun R h q'=>yGY (R:=[tbP q a b,arP N,yAO (ra,rc) r]++R) ?_) (fun z R h q'=>?_)
   ·have e:yAH (([stP s d q n (v:Nat) lg life dead,DiskP d D]++([rsP t p n ra r.length rc (v:Nat) dj life dead,yA1 p D]++[yBK g d p (zq s) (zq t),tbP q a b,arP N,yAO (ra,rc) r]))++R) h:=(xN) h q';exact e
   ·have e:=yFh (R:=[tbP q a b,arP N,yAO (ra,rc) r]++R) q';exact (xN) h e
  by_cases k11:o.kind=11
  ·refine ⟨Unit × Unit,fun _=>⟨_,cH⟩,?_⟩;have c:=yRA (W:=W) (F:=F) (g:=g) (d:=d) (p:=p) hE hg s t o k11 kn 12 zO (fun ya yc=>(c1 _ ya _ yc).box 41) (fun ma mc=>(c2 (yJt (ma,mc) (yFU o)) ma _ mc).box 42);refine (c.frm [tbP q a b,arP N,yAO (ra,rc) r]).conv (fun R h q'=>yGY (R:=[tbP q a b,arP N,yAO (ra,rc) r]++R) ?_) (fun z R h q'=>?_)
   ·have e:yAH (([stP s d q n (v:Nat) lg life dead,DiskP d D]++([rsP t p n ra r.length rc (v:Nat) dj life dead,yA1 p D]++[yBK g d p (zq s) (zq t),tbP q a b,arP N,yAO (ra,rc) r]))++R) h:=(xN) h q';exact e
   ·have e:=yFh (R:=[tbP q a b,arP N,yAO (ra,rc) r]++R) q';exact (xN) h e
  by_cases k4:o.kind=4
  ·refine ⟨Unit × Unit,fun _=>⟨_,cH⟩,?_⟩;have d1:=yOM (W:=W) (F:=F) (s:=s) (d:=d) (q:=q) (n:=n) (D:=D) ay (v:Nat) lg life dead bz;have d2:=yJu (W:=W) (t:=t) (p:=p) (n:=n) (D:=D) ra r.length rc (v:Nat) dj life dead bz
   have c:=yLo (W:=W) (F:=F) (g:=g) (d:=d) (p:=p) (A:=yDx 41 [stP s d q n (v:Nat) lg life dead,DiskP d D]) (B:=yDx 42 [rsP t p n ra r.length rc (v:Nat) dj life dead,yA1 p D]) (A':=fun _:Unit=>yDx 41 [stP s d q n (v:Nat) lg life true,DiskP d D]) (B':=fun _:Unit=>yDx 42 [rsP t p n ra r.length rc (v:Nat) dj life true,yA1 p D]) hE hg s t o k4 12 zO
    (d1.conv (fun R h q=>yCf q) (fun x R h q=>yCn q)) (d2.conv (fun R h q=>yCf q) (fun x R h q=>yCn q))
   refine (c.frm [tbP q a b,arP N,yAO (ra,rc) r]).conv (fun R h q'=>yGY (R:=[tbP q a b,arP N,yAO (ra,rc) r]++R) ?_) (fun z R h q'=>?_)
   ·have e:yAH (([stP s d q n (v:Nat) lg life dead,DiskP d D]++([rsP t p n ra r.length rc (v:Nat) dj life dead,yA1 p D]++[yBK g d p (zq s) (zq t),tbP q a b,arP N,yAO (ra,rc) r]))++R) h:=(xN) h q';exact e
   ·have e:=yFh (R:=[tbP q a b,arP N,yAO (ra,rc) r]++R) q';exact (xN) h e
  refine ⟨Unit,fun _=>⟨.gone D s q t N a b r ra rc v life dead lg dj,hx.mono zO⟩,?_⟩;exact ((yRz (g:=g) (d:=d) (p:=p) ⟨s,0,none⟩ (zq t) o k1 k2 k9 k10 k3 k11 k4).frm (DiskP d D::yA1 p D::yOP n d p s q t N a b r ra rc v life dead lg dj)).conv (fun R=>(xN)) (fun _ R=>(xN))
end
section
variable {W:World} {F:Nat→Addr} {s d q n:Nat} {a:Option Addr} {b:Int} {N:List Nd}
instance xAU:FnIs prog 79:=⟨zK⟩
instance yZi:FnIs prog 143:=⟨zK⟩
theorem yWn (v:Int) (lg:Option Addr) (life:Int) (dead:Bool) (lo hi:zB):Ct prog W 79 [zPp s,strV lo,strV hi] [stP s d q n v lg life dead,tbP q a b] xDc (fun x=>[stP s d q n v lg life dead,tbP q a b]++yY5 x a lo hi):=by
 have cr:=ySD (W:=W) (p:=q) (a:=a) (b:=b) lo hi;refine zE func79 ntmps79 fun R=>?_;repeat' (first|refine xca cr fun z=>?_;obtain ⟨y1,y2,y3⟩:=z|refine xst ?_|refine xsf ?_ ?_|intro _)
 all_goals (exact xdn (y1,y2,y3))
end
abbrev fC (r:Rows) (k:zB):Nat:=atB Prod.fst r k
theorem yWo {r:Rows} (h:RisR r) (k:zB):(∀ p,r[fC r k]? = some p→p.1=k→lk r k=some p.2)∧(∀ p,r[fC r k]? = some p→p.1≠k→lk r k=none)∧(r[fC r k]? = none→lk r k=none):=by
 have hh:=yKo (f:=Prod.fst) h k;have no:(∀ p,r[fC r k]? = some p→p.1≠k)→lk r k=none:=fun hn=>by
  have:yIu Prod.fst r k=false:=by
   cases e:yIu Prod.fst r k with
   |false=>rfl
   |true=>
    obtain ⟨y,y1,y2⟩:=hh.1 e;exact absurd y2 (hn y y1)
  rw [yUO] at this;cases e:lk r k with
  |none=>rfl
  |some v=>rw [e] at this;cases this
 refine ⟨fun p hp e=>?_,fun p hp e=>no fun q hq=>by rw [hp] at hq;cases hq;exact e,fun hp=>no fun q hq=>by rw [hp] at hq;cases hq⟩;rw [← e];exact ySk h.nodup (zLk hp)
theorem yYl {r:Rows} (h:RisR r) {i:Nat} {p:zB × zB} (hp:r[i]? = some p) (k:zB) (hi:i≤fC r k):(Op.bytesLess p.1 k=true→i+1≤fC r k)∧(Op.bytesLess p.1 k=false→fC r k=i):=by
 have hh:=yMV (f:=Prod.fst) h k i p hp;refine ⟨fun e=>hh.1 e,fun e=>?_⟩;rcases Nat.lt_or_ge i (fC r k) with h1|h1
 ·rw [hh.2 h1] at e;cases e
 ·exact Nat.le_antisymm h1 hi
theorem yWp {r:Rows} (k:zB) (h:r.length≤fC r k):fC r k=r.length:=Nat.le_antisymm (yJh r k) h
end Go.Proofs.YtoipmnikdiogcaaGreatDoor
