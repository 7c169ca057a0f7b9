/-
  StI1, StI2.
-/
import Derived.Test.YtlnbkbfblhofbaaGreatDoorVHO
set_option maxRecDepth 100000
set_option maxHeartbeats 64000000
namespace Go.Proofs.YtlnbkbfblhofbaaGreatDoor
open Go Go.RowKit
open Go.Proofs.Tryz
abbrev yWX:Pl:=(.op 0 (.ef 1 [0] (.ef 2 [] .nil)))
abbrev yZX:Pl:=(.op 0 (.op 1 (.ef 2 [0] (.ef 3 [] (.ef 4 [] .nil)))))
abbrev yIm:Pl:=(.op 0 (.ef 1 [] (.op 2 (.op 3 (.op 4 (.op 5 (.op 6 (.op 7 (.op 8 (.op 9 (.op 10 (.op 11 (.op 12 (.op 13 (.op 15 (.op 16 (.op 17 (.op 18 (.op 19 (.op 20 (.op 21 (.ef 14 [21,20,19,18,17,16,15] (.ef 22 [] (.op 23 (.op 24 (.op 25 (.op 26 (.op 27 (.op 28 (.op 29 (.op 30 (.op 31 (.op 32 (.op 33 (.op 34 (.op 35 (.op 36 (.op 38 (.op 39 (.op 40 (.op 41 (.op 42 (.op 43 (.op 44 (.ef 37 [44,43,42,41,40,39,38] (.op 45 (.op 46 (.op 47 .nil))))))))))))))))))))))))))))))))))))))))))))))))
abbrev yZY:Pl:=(.op 0 (.ef 1 [] (.op 2 (.op 3 (.op 4 (.op 5 (.op 6 (.op 7 (.op 8 (.op 9 (.op 10 (.op 11 (.op 12 (.op 13 (.op 15 (.op 16 (.op 17 (.op 18 (.op 19 (.op 20 (.op 21 (.ef 14 [21,20,19,18,17,16,15] (.op 22 (.op 23 (.op 24 (.op 25 (.op 26 (.op 27 (.op 28 (.op 29 (.op 30 (.op 31 (.op 32 (.op 33 (.op 34 (.op 35 (.op 36 (.op 37 (.op 38 (.op 39 (.op 40 (.op 41 (.op 42 (.op 43 (.op 44 (.op 45 (.op 46 (.op 47 .nil))))))))))))))))))))))))))))))))))))))))))))))))
abbrev yV6 (g d p:Nat) (s t:Option Addr):SP:=yAi g [zPp d,zPp p,.pointer s,.pointer t] 41
theorem yNj {D:Dsk} {n:Nat} (hst:Rest D) (hn:D.n=n) (h1:64≤n) (h2:n≤65536) (v:Nat) (hv:v+1≤1099511627776) (r:Rows) (hroom:(yAh r).length≤234*yAu n):yCk D n v r=0∧Rest (yBx D n v r):=by
 have hlA:yAu n≤65536:=by unfold yAu;omega
 obtain ⟨a1,a2,a3,a4,a5,a6⟩:=yHb hst (yAt n (v+1)) (yAu n) (v+1) (yAh r) (by have:=yAO h1 (v+1);omega) zO hroom hlA
 have hA:(yA7 D (yAt n (v+1)) (yAu n) ((v+1:Nat):Int) (yAh r)).2=yCl D n (v+1) r:=rfl
 rw [hA] at a2 a3
 have hh:=yB3 n (yAh r).length
 obtain ⟨b1,b2,b3,b4,b5⟩:=yEs a2 0 (v+1) (yBd n (yAh r).length) (by rw [a3];omega) zO zO zO
 have eE:yCk D n v r=yBu (yCl D n (v+1) r) 0 ((v+1:Nat):Int) (yBd n (yAh r).length):=by unfold yCk;rw [if_neg (by rw [a1];simp)]
 have eW:yBx D n v r=yDU D n (v+1) r:=by unfold yBx;rw [if_neg (by rw [a1];simp)]
 rw [eE,eW]
 exact ⟨b1,b2⟩
theorem Rest.still {D:Dsk} (h:Rest D):Still D:=⟨h.calm.1,h.und,h.ok⟩
theorem yNk {D:Dsk} (h:Still D) (hn:2≤D.n):yA9 D 0=0∨yA9 D 0=14:=by
 have hr:D.roomB 0=true:=by unfold Dsk.roomB;exact zY zO
 unfold yA9
 rw [if_neg (by rw [hr];simp),if_neg (by rw [h.on];simp)]
 split
 ·exact .inr rfl
 ·exact .inl rfl
theorem Bad.le {n:Nat} {D:Dsk} {e:Nat} (h:Bad n D e) (hst:Still D) (hn:2≤D.n):e≤37:=by
 cases h with
 |slot e h hne=>
  rcases yNk hst hn with q|q
  ·rw [h] at q;omega
  ·rw [h] at q;omega
 |_=>omega
section
variable {W:World} {F:Nat→Addr} {g d p n:Nat} {D D2:Dsk} {r:Rows}
instance yYF:FnIs prog 8:=⟨zK⟩
theorem yOG (hE:ErrsOn L16 W F) (h1:n<64) (hn:D.n=n) :
 CtU prog W 18 [zPp d] [DiskP d D] (.tuple #[.pointer none,yAr F 13]) [DiskP d D]:=by
 have e13:W.cell? ⟨1,0,none⟩=some (yAr F 13):=hE.at_ 13 zX
 obtain ⟨ea,hea⟩:=yCW (E:=F) (show (13:Nat)≠0 by omega)
 rw [hea] at e13 ⊢
 have csz:CtU prog W 25 [zPp d] [DiskP d D] (.int .i64 (n:Nat)) [DiskP d D]:=by
  have:=yBs (W:=W) (p:=d) (D:=D)
  rw [hn] at this
  exact this
 have q1:decide ((n:Int)<64)=true:=zY zO
 refine Ct.enter func18 rfl ntmps18 zW (fun R=>?_)
 repeat' (first|(refine yAs ?_;first|refine yAq (d:=3) rfl (fun ge=>?_)|refine yAq (d:=2) rfl (fun gs=>?_))|refine yAb ?_;refine xca csz fun _=>?_|refine yAj ?_;refine yAa (yAn rfl e13) ?_|refine yFg ?_;refine yAa (yAc rfl rfl q1) ?_|refine xst ?_|refine xsa ?_;intro _|refine xsb ?_ ?_<;>intro _<;>try omega|refine xsc ?_|refine xdr 2 yWX ?_|refine xdr 4 yWX ?_|refine xdr 9 yZX ?_|refine xsd ?_ ?_|exact Rech.nil|fail)
 all_goals (refine yCy ?_;exact yAR (by first|exact Or.inl rfl|exact Or.inr rfl) rfl (Rvs.cell rfl inferInstance xS rfl (Rvs.cell rfl inferInstance xS rfl Rvs.nil)) () (by rfl) (xN))
theorem yLZ (B:SP) (hE:ErrsOn L16 W F) (h1:n<64) (hn:D.n=n) (oa:Option Addr) (ol oc:Nat) :
 CtU prog W 12 [zPp d,.slice oa ol oc] [B,DiskP d D] (yAr F 13) [B,DiskP d D]:=by
 have e13:W.cell? ⟨1,0,none⟩=some (yAr F 13):=hE.at_ 13 zX
 have csz:CtU prog W 25 [zPp d] [DiskP d D] (.int .i64 (n:Nat)) [DiskP d D]:=by
  have:=yBs (W:=W) (p:=d) (D:=D)
  rw [hn] at this
  exact this
 have q1:decide ((n:Int)<64)=true:=zY zO
 refine Ct.enter func12 rfl ntmps12 zW (fun R=>?_)
 repeat' (first|refine yAb ?_;refine xca csz fun _=>?_|refine yAj ?_;refine yAa (yAn rfl e13) ?_|refine yFg ?_;refine yAa (yAc rfl rfl q1) ?_|refine xst ?_|refine xsa ?_;intro _|refine xsb ?_ ?_<;>intro _<;>try omega|refine xsc ?_|exact xdn ()|fail)
theorem yUh (hE:ErrsAt W F) (hg:gB≤W.heap.size) (e:Nat) (he:1≤e∧e≤37)
 (co:CtU prog W 18 [zPp d] [DiskP d D] (.tuple #[.pointer none,yAr F e]) [DiskP d D2])
 (cr:CtU prog W 23 [zPp p] [yBc p D] (.tuple #[.pointer none,.int .i64 (e:Nat)]) [yBc p D2]) (s t:Option Addr) :
 CtU prog W 8 [zPp g] [yV6 g d p s t,DiskP d D,yBc p D] (.bool true) [yV6 g d p s t,DiskP d D2,yBc p D2]:=by
 have cn:=yGm hE hg e he.2
 have qn:decide (((e:Nat):Int)≠((e:Nat):Int))=false:=zW
 have q0:decide (((e:Nat):Int)≠0)=true:=zY zO
 have q1:decide (((e:Nat):Int)=0)=false:=zZ zO
 refine Ct.enter func8 rfl ntmps8 zW (fun R=>?_)
 repeat' (first|(refine yAb ?_;first|refine xca cn fun _=>?_|refine xca cr fun _=>?_|refine xca co fun _=>?_)|refine yDe ?_;refine yAa (yAf rfl rfl q1) ?_|(refine yD3 ?_;first|refine yAa (yAl rfl rfl qn) ?_|refine yAa (yAl rfl rfl q0) ?_|refine yAa (yGZ (r:=false) rfl rfl rfl) ?_)|refine xst ?_|refine xsa ?_;intro _|refine xsb ?_ ?_<;>intro _<;>try omega|refine xsc ?_|exact xdn ()|fail)
theorem yUi (hE:ErrsAt W F) (hg:gB≤W.heap.size) (v:Nat)
 (co:Ct prog W 18 [zPp d] [DiskP d D] (fun x:Nat × (Nat × TbQ [] r) × Nat=>.tuple #[.pointer (some ⟨x.1,0,none⟩),.nilIface])
  (fun x=>[stP x.1 d x.2.1.1 n ((v+1:Nat):Int) (some ⟨x.2.2,0,none⟩) D.life false,DiskP d D2,tbP x.2.1.1 x.2.1.2.1.2.1 x.2.1.2.1.2.2,arP x.2.1.2.1.1,yWz x.2.2 d n (v+1) D2.life]))
 (cr:Ct prog W 23 [zPp p] [yBc p D] (fun x:Nat × (Option Addr × Nat) × Nat=>.tuple #[.pointer (some ⟨x.1,0,none⟩),.int .i64 0])
  (fun x=>[rsP x.1 p n x.2.1.1 r.length x.2.1.2 (v+1:Nat) (some ⟨x.2.2,0,none⟩) D.life false,yBc p D2,yBL x.2.1 r,rjP x.2.2 p n (v+1) 0 false D2.life])) (s t:Option Addr) :
 Ct prog W 8 [zPp g] [yV6 g d p s t,DiskP d D,yBc p D] (fun _:(Nat × (Nat × TbQ [] r) × Nat) × (Nat × (Option Addr × Nat) × Nat)=>.bool true)
  (fun z=>[yV6 g d p (some ⟨z.1.1,0,none⟩) (some ⟨z.2.1,0,none⟩),stP z.1.1 d z.1.2.1.1 n ((v+1:Nat):Int) (some ⟨z.1.2.2,0,none⟩) D.life false,DiskP d D2,tbP z.1.2.1.1 z.1.2.1.2.1.2.1 z.1.2.1.2.1.2.2,arP z.1.2.1.2.1.1,yWz z.1.2.2 d n (v+1) D2.life,
   rsP z.2.1 p n z.2.2.1.1 r.length z.2.2.1.2 (v+1:Nat) (some ⟨z.2.2.2,0,none⟩) D.life false,yBc p D2,yBL z.2.2.1 r,rjP z.2.2.2 p n (v+1) 0 false D2.life]):=by
 have cn:=yGm hE hg 0 zO
 rw [yMf] at cn
 refine Ct.enter func8 rfl ntmps8 zW (fun R=>?_)
 repeat' (first|(refine yAb ?_;first|refine xca cn fun _=>?_|refine xca cr fun y=>?_|refine xca co fun x=>?_)|refine yDe ?_;refine yAa (yAf (q:=true) rfl rfl rfl) ?_|(refine yD3 ?_;first|refine yAa (yAl (q:=false) rfl rfl rfl) ?_|refine yAa (yGZ (r:=false) rfl rfl rfl) ?_)|refine xst ?_|refine xsa ?_;intro _|refine xsb ?_ ?_<;>intro _<;>try omega|refine xsc ?_|fail)
 all_goals (exact xdn (x,y))
end
theorem yYy {l:List UInt8} {n:Nat} (hl:l.length=n*256) (h1:1≤n) (h2:n≤65536):Rest (Dsk.of l)∧(Dsk.of l).n=n:=by
 have hn:l.length / 256=n:=zO
 exact ⟨⟨⟨rfl,rfl⟩,rfl,⟨by show 1≤l.length / 256;omega,by show l.length / 256≤65536;omega,by show l.length=256*(l.length / 256);omega,fun x hx=>(by cases hx),by show (-1:Int)≤-1;omega,by show (-1:Int)≤9223372036854775807;omega⟩⟩,hn⟩
theorem yPM {D:Dsk} {n v:Nat} {r:Rows} (hst:Rest D) (hn:D.n=n) (h1:64≤n) (h2:n≤65536) (hroom:(yAh r).length≤234*yAu n):yRa D n v r≤16∧Rest (yRi D n v r)∧(yRi D n v r).n=n:=by
 unfold yRa yRi
 by_cases hw:1099511627776≤v
 ·rw [if_pos hw,if_pos hw];exact ⟨zO,hst,hn⟩
 ·rw [if_neg hw,if_neg hw]
  obtain ⟨q1,q2⟩:=yNj hst hn h1 h2 v zO r hroom
  have fw:=yHp hst.still hn h1 h2 v zO r hroom
  exact ⟨zO,q2,fw.nn⟩
theorem Ct.noP13 {P:Program} {W:World} {f:FuncId} {args:List Value} {X:Type} {r:X→Value} (h:Ct P W f args [noP] r (fun _=>[noP])):Ct P W f args [] r (fun _=>[]):=
 ⟨fun R w s=>(h.go R w (s.mono yPf)).mono fun _ _ ⟨x,he,hs⟩=>⟨x,he,hs.right (A:=[noP])⟩⟩
section
variable {W:World} {F:Nat→Addr} {d p n:Nat} {D:Dsk} {r:Rows}
theorem yJ5 (hE:ErrsAt W F) (hN:NibAt W) (h2:n≤3000) (hst:Rest D) (hn:D.n=n) (A:SP) (oa:Option Addr) (oc:Nat) (ops:List BOp) (hA:Lv W opC 3 A oa ops) (hf:OpsFit ops) :
 ∃ (e:Nat) (D3:Dsk),e≤37∧D3.ok∧(∀ ya yc,CtU prog W 12 [zPp d,.slice ya ops.length yc] [xAa (ya,yc) ops,DiskP d D] (yAr F e) [xAa (ya,yc) ops,DiskP d D3])∧
  CtU prog W 14 [zPp p,.slice oa ops.length oc] [A,yBc p D] (.int .i64 (e:Nat)) [A,yBc p D3]:=by
 have hE16:ErrsOn L16 W F:=hE.to16
 have hE8:ErrsOn L8 W F:=hE16.to8
 have hfl:=hf.len
 by_cases h1:64≤n
 rotate_left
 ·exact ⟨13,D,zO,hst.ok,fun ya yc=>yLZ _ hE16 zO hn ya ops.length yc,yJR A zO hn oa ops.length oc⟩
 rcases yNk hst.still zO with h0|h0
 ·exact ⟨21,D,zO,hst.ok,fun ya yc=>yJC hE16 hE8 hN h1 zO hn hst.calm.1 h0 _ ya yc ops.length,yLY A h1 h2 hst.still hn h0 oa ops.length oc⟩
 obtain ⟨r,hr⟩:∃ r,yAJ [] ops=r:=⟨_,rfl⟩
 have hsn:(yAh r).length≤4611686018427387904:=by rw [← hr];exact hf.snap List.Pairwise.nil (by show (1:Nat)≤_;omega)
 have cd:=yNi (W:=W) (p:=p) (D:=D) h1 h2 hst.still hn h0 A oa oc ops hA zO hr hsn
 by_cases hbig:234*yAu n<(yAh r).length
 ·exact ⟨17,D,zO,hst.ok,fun ya yc=>yNe hE16 hE8 hN h1 zO hst.still hn h0 _ ya yc ops (Lv.own (e:=60) (c:=yc) yBy rfl) zO hr hbig hsn,cd.1 hbig⟩
 ·have hfit:(yAh r).length≤234*yAu n:=by omega
  obtain ⟨q1,q2⟩:=yNj hst hn h1 zO 0 zO r hfit
  have c2:=cd.2 hfit
  rw [q1] at c2
  refine ⟨0,yBx D n 0 r,zO,q2.ok,fun ya yc=>?_,c2⟩
  have c1:=yOE (W:=W) (F:=F) (d:=d) hE8 hN h1 zO hst.still hn h0 (xAa (ya,yc) ops) ya yc ops (Lv.own (e:=60) (c:=yc) yBy rfl) zO hr hfit
  have e1:yWT D n r=yCk D n 0 r:=rfl
  have e2:yWU D n r=yBx D n 0 r:=rfl
  rw [e1,e2,q1] at c1
  exact c1
theorem yOH (hE:ErrsAt W F) (hN:NibAt W) (hg:gB≤W.heap.size) (l:List UInt8) (hl:l.length≤1048576) (A:SP) (oa:Option Addr) (oc:Nat) (ops:List BOp) (hA:Lv W opC 3 A oa ops) (hf:OpsFit ops) :
 CtU prog W 3 [strV l,.slice oa ops.length oc] [A] (.bool true) [A]:=by
 have hE16:ErrsOn L16 W F:=hE.to16
 have hE8:ErrsOn L8 W F:=hE16.to8
 have cL:=yQL hE hN hg
 have hfl:=hf.len
 have cc:=yOu A oa oc ops hA zO
 have fail:∀ e:Nat,1≤e→e≤37→CtU prog W 5 [strV l] [] (.tuple #[.pointer none,yAr F e]) []→CtU prog W 6 [strV l] [] (.tuple #[.pointer none,.int .i64 (e:Nat)]) []→
  CtU prog W 3 [strV l,.slice oa ops.length oc] [A] (.bool true) [A]:=fun e h1 h2 c1 c2=>by
  have cn:=yGm hE hg e h2
  have qn:decide (((e:Nat):Int)≠((e:Nat):Int))=false:=zW
  have q0:decide (((e:Nat):Int)≠0)=true:=zY zO
  refine Ct.enter func3 rfl ntmps3 zW (fun R=>?_)
  repeat' (first|(refine yAb ?_;first|refine xca cn fun _=>?_|refine xca c2 fun _=>?_|refine xca c1 fun _=>?_|refine xca cL fun _=>?_)|(refine yD3 ?_;first|refine yAa (yAl rfl rfl qn) ?_|refine yAa (yAl rfl rfl q0) ?_|refine yAa (yGZ (r:=false) rfl rfl rfl) ?_)|refine xst ?_|refine xsa ?_;intro _|refine xsb ?_ ?_<;>intro _<;>try omega|refine xsc ?_|refine xdr 10 yIm ?_|refine xsd ?_ ?_|exact Rech.nil|exact xdn ()|fail)
 by_cases hm:l.length % 256=0
 rotate_left
 ·exact fail 7 zO zO (yMk hE8 l hm zO) (yQZ l hm)
 by_cases h0:l.length / 256<1
 ·exact fail 6 zO zO (yLa hE8 l hm zO (.inl h0)) (yOB l hm zO (.inl h0))
 clear fail
 obtain ⟨n,hn⟩:∃ n,n=l.length / 256:=⟨_,rfl⟩
 have hln:l.length=n*256:=zO
 have hn1:1≤n:=zO
 have hn2:n≤65536:=zO
 have c1:=yXm (W:=W) l n hln hn1 hn2 hg
 have c2:=yVV (W:=W) l n hln hn1 hn2
 obtain ⟨hR,hDn⟩:=yYy hln hn1 hn2
 have c0:=yGm hE hg 0 zO
 rw [yMf] at c0
 obtain ⟨D,hD⟩:∃ D,D=Dsk.of l:=⟨_,rfl⟩
 rw [← hD] at c1 c2 hR hDn
 clear hD hn hm h0
 by_cases hbig:3000<n
 ·have q3:decide ((3000:Int)<((n:Nat):Int))=true:=zY zO
  refine Ct.enter func3 rfl ntmps3 zW (fun R=>?_)
  repeat' (first|refine yAw (id:=7) ?_;refine yCO ?_|(refine yAb ?_;first|refine xca c0 fun _=>?_|refine xca c2 fun p=>?_|refine xca c1 fun d=>?_|refine xca cL fun _=>?_)|(refine yD3 ?_;first|refine yAa (yAl (q:=false) rfl rfl rfl) ?_|refine yAa (yGZ (r:=false) rfl rfl rfl) ?_)|refine xst ?_|refine xsa ?_;intro _|refine xsb ?_ ?_<;>intro _<;>try omega|refine xsc ?_|refine xdr 10 yIm ?_|refine xsd ?_ ?_|exact Rech.nil|fail)
  refine Hold.mk ?_
  refine KJ.unpack_at (F:=yCH p D) xS (fun x=>?_)
  obtain ⟨sv,wv⟩:=x
  rw [yAX,hDn]
  refine KJ.row_slice xS (fun sa sc e=>?_)
  subst e
  repeat' (first|refine yD3 ?_;refine yAa (yAl (q:=false) rfl rfl rfl) ?_|refine yF5 ?_;refine yAa (yAe rfl rfl q3) ?_|refine xst ?_|refine xsa ?_;intro _|refine xsb ?_ ?_<;>intro _<;>try omega|refine xsc ?_|refine xdr 10 yIm ?_|refine xsd ?_ ?_|exact Rech.nil|exact xdn ()|fail)
 have hn3:n≤3000:=zO
 have q3:decide ((3000:Int)<((n:Nat):Int))=false:=zZ zO
 refine Ct.enter func3 rfl ntmps3 zW (fun R=>?_)
 repeat' (first|refine yAw (id:=7) ?_;refine yCO ?_|(refine yAb ?_;first|refine xca c0 fun _=>?_|refine xca c2 fun p=>?_|refine xca c1 fun d=>?_|refine xca cL fun _=>?_)|(refine yD3 ?_;first|refine yAa (yAl (q:=false) rfl rfl rfl) ?_|refine yAa (yGZ (r:=false) rfl rfl rfl) ?_)|refine xst ?_|refine xsa ?_;intro _|refine xsb ?_ ?_<;>intro _<;>try omega|refine xsc ?_|refine xdr 10 yIm ?_|refine xsd ?_ ?_|exact Rech.nil|fail)
 refine Hold.mk ?_
 refine KJ.unpack_at (F:=yCH p D) xS (fun x=>?_)
 obtain ⟨sv,wv⟩:=x
 rw [yAX,hDn]
 refine KJ.row_slice xS (fun sa sc e=>?_)
 subst e
 repeat' (first|refine yAw (id:=9) ?_;refine yCO ?_|refine yD3 ?_;refine yAa (yAl (q:=false) rfl rfl rfl) ?_|refine yF5 ?_;refine yAa (yAe rfl rfl q3) ?_|refine xst ?_|refine xsa ?_;intro _|refine xsb ?_ ?_<;>intro _<;>try omega|refine xsc ?_|refine xdr 10 yIm ?_|refine xsd ?_ ?_|exact Rech.nil|fail)
 refine Hold.mk ?_
 refine KJ.pack (tag:=21) (key:=p) (F:=yCH p D) (.slice sa n sc,wv) (by rw [yAX,hDn];exact xP) ?_
 -- what both answer to Open
 have ways:(∃ (e:Nat) (D2:Dsk),(1≤e∧e≤37)∧Rest D2∧D2.n=n∧CtU prog W 18 [zPp d] [DiskP d D] (.tuple #[.pointer none,yAr F e]) [DiskP d D2]∧
  CtU prog W 23 [zPp p] [yBc p D] (.tuple #[.pointer none,.int .i64 (e:Nat)]) [yBc p D2])∨
  (64≤n∧∃ r0 recs v r,LiesO n D r0 recs v r∧yRa D n v r=0):=by
  by_cases h1:64≤n
  rotate_left
  ·exact .inl ⟨13,D,zO,hR,hDn,yOG hE16 zO hDn,yLX zO hDn⟩
  rcases yQT hR.calm.1 hDn h1 zO with ⟨r0,recs,v,r,hL⟩|⟨e,hB⟩
  ·by_cases h0:yRa D n v r=0
   ·exact .inr ⟨h1,r0,recs,v,r,hL,h0⟩
   ·obtain ⟨w1,w2,w3⟩:=yPM (v:=v) hR hDn h1 zO hL.room
    exact .inl ⟨yRa D n v r,yRi D n v r,zO,w2,w3,(yKF hE hN h1 zO hR.still hDn hL).1 h0,(yKK h1 hn3 hR.still hDn hL).1 h0⟩
  ·obtain ⟨hne,-⟩:=yKJ (W:=W) (p:=p) h1 hn3 hR.still hDn e hB
   exact .inl ⟨e,D,⟨zO,hB.le hR.still zO⟩,hR,hDn,yT5 hE hN h1 zO hDn hR.calm.1 e hB,yRd h1 hn3 hR.still hDn e hB⟩
 -- Format by both,the images compared
 apply yI4 (fun K=>∀ D2:Dsk,Rest D2→D2.n=n→KJ W 113 K [(1,.slice oa ops.length oc),(5,zPp d),(7,zPp p)] ([A,DiskP d D2,yBc p D2]++R))
 ·intro rest
  rcases ways with ⟨e,D2,he,hR2,hn2,co,cr⟩|⟨h1,r0,recs,v,r,hL,h0⟩
  ·have cop:=fun g=>yUh (W:=W) (F:=F) (g:=g) hE hg e he co cr none none
   repeat' (first|refine yAw (id:=12) ?_;refine yCO ?_|refine yA4 ?_;refine yA3 rfl xF rfl (fun g=>?_)|refine yAb ?_;refine xca (cop _) fun _=>?_|refine yAB ?_;refine yAa (yAC xV xW) ?_|refine xst ?_|refine xsa ?_;intro _|refine xsb ?_ ?_<;>intro _<;>try omega|refine xsc ?_|refine xdr 10 yIm ?_|refine xsd ?_ ?_|exact Rech.nil|fail)
   all_goals refine Hold.mk ?_
   all_goals exact KJ.weak (rest D2 hR2 hn2) xB (xN)
  ·obtain ⟨w1,w2,w3⟩:=yPM (v:=v) hR hDn h1 zO hL.room
   have cop:=fun g=>yUi (W:=W) (F:=F) (g:=g) hE hg v ((yKF (d:=d) hE hN h1 zO hR.still hDn hL).2 h0) ((yKK (p:=p) h1 hn3 hR.still hDn hL).2 h0) none none
   have hrl:=yTt hL.room zO
   have crw:=fun (s q g:Nat) (N:List Nd) (ta:Option Addr) (tb:Int) (hT:TbOk N ta r)=>yPq (W:=W) (s:=s) (d:=d) (q:=q) (n:=n) (b:=tb) ((v+1:Nat):Int) (some ⟨g,0,none⟩) D.life false hT zO
   have cse:=fun (x y:Option Addr × Nat)=>yKB (W:=W) (xAK x r) (yBL y r) x.1 y.1 x.2 y.2 r (Lv.own (e:=62) (c:=x.2) yB2 rfl) (Lv.own (e:=62) (c:=y.2) yB2 rfl) zO
   have cve:=fun (s q g:Nat)=>yTr (W:=W) (s:=s) (d:=d) (q:=q) (n:=n) ((v+1:Nat):Int) (some ⟨g,0,none⟩) D.life false
   have qv:decide (((v+1:Nat):Int)≠((v+1:Nat):Int))=false:=zW
   repeat' (first|refine yAw (id:=10) ?_;refine yCO ?_|refine yA4 ?_;refine yA3 rfl xF rfl (fun g=>?_)|refine yAB ?_;refine yAa (yAC xV xW) ?_|refine xst ?_|refine xsa ?_;intro _|refine xsb ?_ ?_<;>intro _<;>try omega|refine xsc ?_|refine xdr 10 yIm ?_|refine xsd ?_ ?_|exact Rech.nil|fail)
   refine Hold.mk ?_
   repeat' (first|refine yAw (id:=12) ?_;refine yCO ?_|(refine yAb ?_;first|refine xca (crw _ _ _ _ _ _ hT) fun x=>?_;obtain ⟨ua,uc⟩:=x|refine xca (cop _) fun z=>?_;obtain ⟨⟨s,⟨q,⟨⟨N,ta,tb⟩,gN,hT⟩⟩,gj⟩,⟨t,⟨ra,rc⟩,rj⟩⟩:=z;dsimp only at gN hT ⊢)|refine yD3 ?_;refine yAa (yAl rfl rfl qv) ?_|refine yBP ?_;(refine yA5 (X:=Unit) xE (cse (ua,uc) (ra,rc)) xP rfl ?_)|refine yW9 ?_;(refine yA5 (X:=Unit) xE (cse (ua,uc) (ra,rc)) xP rfl ?_)|refine yBP ?_;(refine yCD (X:=Unit) rfl rfl xE (cse (ua,uc) (ra,rc)) xP rfl ?_)|refine yW9 ?_;(refine yCD (X:=Unit) rfl rfl xE (cse (ua,uc) (ra,rc)) xP rfl ?_)|refine yBP ?_;(refine yA5 (X:=Unit) xE (cve _ _ _) xP rfl ?_)|refine yBP ?_;(refine yCD (X:=Unit) rfl rfl xE (cve _ _ _) xP rfl ?_)|refine xst ?_|refine xsa ?_;intro _|refine xsb ?_ ?_<;>intro _<;>try omega|refine xsc ?_|refine xdr 10 yZY ?_|refine xsd ?_ ?_|exact Rech.nil|fail)
   all_goals refine Hold.mk ?_
   all_goals exact KJ.weak (rest _ w2 w3) xB (xN)
 intro D2 hR2 hn2
 obtain ⟨e,D3,he,hok3,f1,f2⟩:=yJ5 (W:=W) (F:=F) (d:=d) (p:=p) hE hN hn3 hR2 hn2 A oa oc ops hA hf
 have ce:=yGm hE hg e he
 have i1:=yUI (W:=W) (p:=d) (D:=D3)
 have i2:=yTM (W:=W) (p:=p) (D:=D3) hok3
 have qe:decide (((e:Nat):Int)=((e:Nat):Int))=true:=zY rfl
 obtain ⟨im,him⟩:∃ im,im=D3.img:=⟨_,rfl⟩
 rw [← him] at i1 i2
 repeat' (first|(refine yAb ?_;first|refine xca i2 fun _=>?_|refine xca i1 fun _=>?_|refine xca ce fun _=>?_|refine xca f2 fun _=>?_|refine xca (f1 _ _) fun _=>?_|refine xca cc fun y=>?_;obtain ⟨ya,yc⟩:=y)|(refine yDe ?_;first|refine yAa (yMh rfl rfl rfl) ?_|refine yAa (yAf rfl rfl qe) ?_)|refine xst ?_|refine xsa ?_;intro _|refine xsb ?_ ?_<;>intro _<;>try omega|refine xsc ?_|refine xdr 10 yIm ?_|refine xsd ?_ ?_|exact Rech.nil|exact xdn ()|fail)
theorem yNl (hE:ErrsAt W F) (hN:NibAt W) (hg:gB≤W.heap.size) (l:List UInt8) (hl:l.length≤1048576) (oa:Option Addr) (oc:Nat) (ops:List BOp) (hA:Lv W opC 3 noP oa ops) (hf:OpsFit ops) :
 CtU prog W 3 [strV l,.slice oa ops.length oc] [] (.bool true) []:=Ct.noP13 (yOH hE hN hg l hl noP oa oc ops hA hf)
end
end Go.Proofs.YtlnbkbfblhofbaaGreatDoor
