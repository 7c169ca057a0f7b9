/-
  StX2, StI1, SuX, OpenU, SuB, SuA, CmA, BaR3.
-/
import Derived.Test.YtoipmnikdiogcaaGreatDoorYHS
set_option maxRecDepth 100000
set_option maxHeartbeats 64000000
namespace Go.Proofs.YtoipmnikdiogcaaGreatDoor
open Go Go.RowKit
open Go.Proofs.Tryz
abbrev yZd:Pl:=(.op 0 (.ef 1 [0] (.ef 2 [] .nil)))
abbrev xCh:Pl:=(.op 0 (.op 1 (.ef 2 [0] (.ef 3 [] (.ef 4 [] .nil)))))
abbrev yWe:Pl:=(po [0,1,2,3,4,5,6,7,8,9,10,11,12,13,14,15,16,17,18,19,20] .nil)
abbrev yJm:Pl:=(po [0,1,2,3,4,5,6,7,8,9,10,11] .nil)
section
variable {W:World} {F:Nat→Addr} {N:List Nd} {a:Option Addr} {r:Rows} {q s d n:Nat} {b:Int} {D:Dsk}
theorem yWf (ay:ErrsOn L8 W F) (hN:NibAt W) (h1:64≤n) (h2:n≤65536) (life:Int) (hT:TbOk N a r) (h:Still D) (hn:D.n=n) (hr:(yAk r).length≤234*yAA n) :CtU prog W 51 [zPp s] [stP s d q n (0:Nat) none life false,DiskP d D,tbP q a b,arP N] (yAy F (xAk D n r)) [DiskP d (xAl D n r)]:=by
 obtain ⟨f1,f2,f3,f4⟩:=yBf h1 1;have fB:yAA n≤65536:=by unfold yAA;omega
 obtain ⟨a1,a2,a3,a4,a5⟩:=yIf h (yAG n 1) (yAA n) 1 (yAk r) zO (Nat.le_refl _) hr fB;have hh:(yBJ n (yAk r).length).length≤234:=Nat.le_trans (yDc _ _) zO;have aS:D.und.length+65536<1073741823:=by rw [h.und];simp
 rcases a1 with ⟨e0,s0,c0,o0⟩|⟨e0,o1,c1⟩
 ·have eE:xAk D n r=yB1 (yDt D n 1 r) 0 ((1:Nat):Int) (yBJ n (yAk r).length):=by unfold xAk;rw [if_neg (by rw [e0];simp)]
  have eW:xAl D n r=yFG D n 1 r:=by unfold xAl;rw [if_neg (by rw [e0];simp)]
  have hA:(yBF D (yAG n 1) (yAA n) ((1:Nat):Int) (yAk r)).2=yDt D n 1 r:=rfl;rw [hA] at s0 a2;rw [eE,eW];obtain ⟨b1,b2,b3,b4,b5⟩:=yKQ (D:=yDt D n 1 r) s0 0 1 (yBJ n (yAk r).length) zO (Nat.le_refl _) zO hh;have hD:yBB (yDt D n 1 r) ((0:Nat):Int) ((1:Nat):Int) (yBJ n (yAk r).length)=yFG D n 1 r:=rfl;rw [hD] at b1 b2;rcases b1 with ⟨g0,g1,-⟩|⟨g0,-,-⟩
  ·have g0:yB1 (yDt D n 1 r) 0 ((1:Nat):Int) (yBJ n (yAk r).length)=0:=g0;rw [g0];have:=yH9 (W:=W) (F:=F) (N:=N) (a:=a) (r:=r) (q:=q) (s:=s) (d:=d) (b:=b) (D:=D) ay hN h1 h2 0 zO none life false hT hn hr aS e0 s0.und (by rw [a2,hn]) g0 g1.on (by rw [b2,a2,hn]);exact this.to (fun _=>()) (fun _=>rfl) (fun _ R=>(xN))
  ·have g0:yB1 (yDt D n 1 r) 0 ((1:Nat):Int) (yBJ n (yAk r).length)=12:=g0;rw [g0];have:=yOp (W:=W) (F:=F) (N:=N) (a:=a) (r:=r) (q:=q) (s:=s) (d:=d) (b:=b) (D:=D) ay hN h1 h2 0 zO none life false hT hn hr aS e0 s0.und (by rw [a2,hn]) g0;exact this.to (fun _=>()) (fun _=>rfl) (fun _ R=>(xN))
 ·have eE:xAk D n r=12:=by unfold xAk;rw [if_pos (by rw [e0];simp),e0]
  have eW:xAl D n r=yDt D n 1 r:=by unfold xAl;rw [if_pos (by rw [e0];simp)]
  rw [eE,eW];have:=yOo (W:=W) (F:=F) (N:=N) (a:=a) (r:=r) (q:=q) (s:=s) (d:=d) (b:=b) (D:=D) ay hN h1 h2 0 zO none life false hT hn hr aS e0;exact this.to (fun _=>()) (fun _=>rfl) (fun _ R=>(xN))
end
section
variable {W:World} {F:Nat→Addr} {r:Rows} {d n:Nat} {D:Dsk}
theorem yQd (ay:ErrsOn L8 W F) (hN:NibAt W) (h1:64≤n) (h2:n≤65536) (h:Still D) (hn:D.n=n) (hs:yBA D 0=14) (A:SP) (oa:Option Addr) (oc:Nat) (ops:List BOp) (hL:Lv W opC 3 A oa ops) (ho:ops.length≤100000000) (hr:yAP [] ops=r) (bH:(yAk r).length≤234*yAA n) :CtU prog W 14 [zPp d,.slice oa ops.length oc] [A,DiskP d D] (yAy F (xAk D n r)) [A,DiskP d (xAl D n r)]:=by
 have hA:=yBr h2;obtain ⟨ea,bT⟩:=yDf (E:=F) (show (14:Nat)≠0 by omega);have cr:CtU prog W 52 [zPp d,zi 0] [DiskP d D] (.tuple #[strV [],zi 0,.iface 303 (.pointer (some ea))]) [DiskP d D]:=by
  have:=yC9 (W:=W) (p:=d) (D:=D) ay hN zO 0;rw [hs,bT] at this;have e1:yBT D 0=[]:=by unfold yBT;rw [hs];rfl
  have e2:yB6 D 0=0:=by unfold yB6;rw [hs];rfl
  rw [e1,e2] at this;exact this
 have bj:CtU prog W 45 [zPp d] [DiskP d D] (zi (n:Nat)) [DiskP d D]:=by have:=yBM (W:=W) (p:=d) (D:=D);rw [hn] at this;exact this
 have gV:CtU prog W 46 [zPp d] [DiskP d D] (.bool false) [DiskP d D]:=by have:=yDy (W:=W) (p:=d) (D:=D);rw [h.on] at this;exact this
 have cov:=yGm (W:=W) (d:=d) (D:=D) h1 h2 hn;have cap:=fun q=>yC4 (W:=W) (N:=[]) (ta:=none) (r:=[]) (p:=q) (tb:=0) (TbOk.nil []) A oa oc ops hL (by simp;omega);rw [hr] at cap;have iw:=fun (q:Nat) (N:List Nd) (a:Option Addr) (b:Int) (hT:TbOk N a r)=>yEM (W:=W) (N:=N) (p:=q) (b:=b) hT zO;have bL:=fun s q=>yCw (W:=W) (s:=s) (d:=d) (q:=q) (n:=n) 0 none D.life false h2;have eG:=fun (s q:Nat) (N:List Nd) (a:Option Addr) (b:Int) (hT:TbOk N a r)=>yWf (W:=W) (F:=F) (s:=s) (d:=d) (q:=q) (b:=b) (D:=D) ay hN h1 h2 D.life hT h hn bH;obtain ⟨D2,aF⟩:∃ D2,D2=xAl D n r:=⟨_,rfl⟩;obtain ⟨ee,iE⟩:∃ e,e=xAk D n r:=⟨_,rfl⟩;have q1:decide ((n:Int)<64)=false:=zZ zO;have q2:decide (((234*yAA n:Nat):Int)<((yAk r).length:Nat))=false:=zZ zO;rw [← aF,← iE] at eG ⊢;clear aF iE;refine zE func14 ntmps14 fun R=>?_;refine KJ.arNil ?_;repeat' (first|(refine yAb ?_;first|refine xca (eG _ _ _ _ _ hT) fun _=>?_|refine xca (bL _ _) fun _=>?_|refine xca (iw _ _ _ _ hT) fun _=>?_|refine xca (cap _) fun x=>?_;obtain ⟨⟨N,a,b⟩,gN,hT⟩:=x;dsimp only at gN hT ⊢|refine xca cov fun x=>?_;obtain ⟨s,q⟩:=x)|refine xqa ?_|refine xsf ?_ ?_|exact xdn ()|intro _)
theorem yOI (hE:ErrsOn L16 W F) (ay:ErrsOn L8 W F) (hN:NibAt W) (h1:64≤n) (h2:n≤65536) (h:Still D) (hn:D.n=n) (hs:yBA D 0=14) (A:SP) (oa:Option Addr) (oc:Nat) (ops:List BOp) (hL:Lv W opC 3 A oa ops) (ho:ops.length≤100000000) (hr:yAP [] ops=r) (cM:234*yAA n<(yAk r).length) (iX:(yAk r).length≤4611686018427387904) :CtU prog W 14 [zPp d,.slice oa ops.length oc] [A,DiskP d D] (yAy F 17) [A,DiskP d D]:=by
 have hA:=yBr h2;have fX:W.cell? ⟨4,0,none⟩=some (yAy F 17):=hE.at_ 17 zX;obtain ⟨ea,bT⟩:=yDf (E:=F) (show (14:Nat)≠0 by omega);have cr:CtU prog W 52 [zPp d,zi 0] [DiskP d D] (.tuple #[strV [],zi 0,.iface 303 (.pointer (some ea))]) [DiskP d D]:=by
  have:=yC9 (W:=W) (p:=d) (D:=D) ay hN zO 0;rw [hs,bT] at this;have e1:yBT D 0=[]:=by unfold yBT;rw [hs];rfl
  have e2:yB6 D 0=0:=by unfold yB6;rw [hs];rfl
  rw [e1,e2] at this;exact this
 have bj:CtU prog W 45 [zPp d] [DiskP d D] (zi (n:Nat)) [DiskP d D]:=by have:=yBM (W:=W) (p:=d) (D:=D);rw [hn] at this;exact this
 have gV:CtU prog W 46 [zPp d] [DiskP d D] (.bool false) [DiskP d D]:=by have:=yDy (W:=W) (p:=d) (D:=D);rw [h.on] at this;exact this
 have cov:=yGm (W:=W) (d:=d) (D:=D) h1 h2 hn;have cap:=fun q=>yC4 (W:=W) (N:=[]) (ta:=none) (r:=[]) (p:=q) (tb:=0) (TbOk.nil []) A oa oc ops hL (by simp;omega);rw [hr] at cap;have iw:=fun (q:Nat) (N:List Nd) (a:Option Addr) (b:Int) (hT:TbOk N a r)=>yEM (W:=W) (N:=N) (p:=q) (b:=b) hT iX;have bL:=fun s q=>yCw (W:=W) (s:=s) (d:=d) (q:=q) (n:=n) 0 none D.life false h2;have q1:decide ((n:Int)<64)=false:=zZ zO;have q2:decide (((234*yAA n:Nat):Int)<((yAk r).length:Nat))=true:=zY zO;refine zE func14 ntmps14 fun R=>?_;refine KJ.arNil ?_;repeat' (first|(refine yAb ?_;first|refine xca (bL _ _) fun _=>?_|refine xca (iw _ _ _ _ hT) fun _=>?_|refine xca (cap _) fun x=>?_;obtain ⟨⟨N,a,b⟩,gN,hT⟩:=x;dsimp only at gN hT ⊢|refine xca cov fun x=>?_;obtain ⟨s,q⟩:=x)|refine xqa ?_|refine xsf ?_ ?_|exact xdn ()|intro _)
end
abbrev yBK (g d p:Nat) (s t:Option Addr):SP:=yAj g [zPp d,zPp p,.pointer s,.pointer t] 37
theorem Rest.still {D:Dsk} (h:Rest D):Still D:=⟨h.calm.1,h.und,h.ok⟩
theorem yOJ {D:Dsk} (h:Still D) (hn:2≤D.n):yBA D 0=0∨yBA D 0=14:=by
 have hr:D.roomB 0=true:=by unfold Dsk.roomB;exact zY zO
 unfold yBA;rw [if_neg (by rw [hr];simp),if_neg (by rw [h.on];simp)];split
 ·exact .inr rfl
 ·exact .inl rfl
theorem Bad.le {n:Nat} {D:Dsk} {e:Nat} (h:Bad n D e) (aj:Still D) (hn:2≤D.n):e≤37:=by
 cases h with
 |slot e h ao=>
  rcases yOJ aj hn with q|q
  ·rw [h] at q;omega
  ·rw [h] at q;omega
 |_=>omega
section
variable {W:World} {F:Nat→Addr} {g d p n:Nat} {D D2:Dsk} {r:Rows}
instance xA6:FnIs prog 26:=⟨zK⟩
theorem yQe (hE:ErrsOn L16 W F) (h1:n<64) (hn:D.n=n) :CtU prog W 13 [zPp d] [DiskP d D] (.tuple #[.pointer none,yAy F 13]) [DiskP d D]:=by
 have e13:W.cell? ⟨1,0,none⟩=some (yAy F 13):=hE.at_ 13 zX;obtain ⟨ea,bT⟩:=yDf (E:=F) (show (13:Nat)≠0 by omega);rw [bT] at e13 ⊢;have bj:CtU prog W 45 [zPp d] [DiskP d D] (zi (n:Nat)) [DiskP d D]:=by have:=yBM (W:=W) (p:=d) (D:=D);rw [hn] at this;exact this
 have q1:decide ((n:Int)<64)=true:=zY zO;refine zE func13 ntmps13 fun R=>?_;repeat' (first|(refine yAw ?_;first|refine yAv (d:=3) rfl (fun ge=>?_)|refine yAv (d:=2) rfl (fun gs=>?_))|refine xqa ?_|refine xsf ?_ ?_|refine xdt [(2,yZd),(4,yZd),(9,xCh)] ?_|apply zN|intro _)
 all_goals (refine yCu ?_;exact yA5 zor rfl (Rvs.cell rfl inferInstance xS rfl (Rvs.cell rfl inferInstance xS rfl Rvs.nil)) () (by rfl) (xN))
theorem yNq (B:SP) (hE:ErrsOn L16 W F) (h1:n<64) (hn:D.n=n) (oa:Option Addr) (ol oc:Nat) :CtU prog W 14 [zPp d,.slice oa ol oc] [B,DiskP d D] (yAy F 13) [B,DiskP d D]:=by
 have e13:W.cell? ⟨1,0,none⟩=some (yAy F 13):=hE.at_ 13 zX;have bj:CtU prog W 45 [zPp d] [DiskP d D] (zi (n:Nat)) [DiskP d D]:=by have:=yBM (W:=W) (p:=d) (D:=D);rw [hn] at this;exact this
 have q1:decide ((n:Int)<64)=true:=zY zO;refine zE func14 ntmps14 fun R=>?_;repeat' (first|refine xqa ?_|refine xsf ?_ ?_|exact xdn ()|intro _)
theorem yWg (hE:ErrsAt W F) (hg:gB≤W.heap.size) (e:Nat) (he:1≤e∧e≤37) (co:CtU prog W 13 [zPp d] [DiskP d D] (.tuple #[.pointer none,yAy F e]) [DiskP d D2]) (cr:CtU prog W 69 [zPp p] [yA1 p D] (.tuple #[.pointer none,zi (e:Nat)]) [yA1 p D2]) (s t:Option Addr) :CtU prog W 26 [zPp g] [yBK g d p s t,DiskP d D,yA1 p D] (.bool true) [yBK g d p s t,DiskP d D2,yA1 p D2]:=by
 have cn:=yF7 hE hg e he.2;have qn:decide (((e:Nat):Int)≠((e:Nat):Int))=false:=zW;have q0:decide (((e:Nat):Int)≠0)=true:=zY zO;have q1:decide (((e:Nat):Int)=0)=false:=zZ zO;refine zE func26 ntmps26 fun R=>?_;repeat' (first|refine yAo ?_;refine yAa (yQV (r:=false) rfl rfl rfl) ?_|refine xqa ?_|refine xsf ?_ ?_|exact xdn ()|intro _)
theorem yWh (hE:ErrsAt W F) (hg:gB≤W.heap.size) (v:Nat) (co:Ct prog W 13 [zPp d] [DiskP d D] (fun x:Nat × (Nat × TbQ [] r) × Nat=>.tuple #[.pointer (some ⟨x.1,0,none⟩),.nilIface]) (fun x=>[stP x.1 d x.2.1.1 n ((v+1:Nat):Int) (some ⟨x.2.2,0,none⟩) D.life false,DiskP d D2,tbP x.2.1.1 x.2.1.2.1.2.1 x.2.1.2.1.2.2,arP x.2.1.2.1.1,yWv x.2.2 d n (v+1) D2.life])) (cr:Ct prog W 69 [zPp p] [yA1 p D] (fun x:Nat × (Option Addr × Nat) × Nat=>.tuple #[.pointer (some ⟨x.1,0,none⟩),zi 0]) (fun x=>[rsP x.1 p n x.2.1.1 r.length x.2.1.2 (v+1:Nat) (some ⟨x.2.2,0,none⟩) D.life false,yA1 p D2,yAO x.2.1 r,rjP x.2.2 p n (v+1) 0 false D2.life])) (s t:Option Addr) :Ct prog W 26 [zPp g] [yBK g d p s t,DiskP d D,yA1 p D] (fun _:(Nat × (Nat × TbQ [] r) × Nat) × (Nat × (Option Addr × Nat) × Nat)=>.bool true) (fun z=>[yBK g d p (some ⟨z.1.1,0,none⟩) (some ⟨z.2.1,0,none⟩),stP z.1.1 d z.1.2.1.1 n ((v+1:Nat):Int) (some ⟨z.1.2.2,0,none⟩) D.life false,DiskP d D2,tbP z.1.2.1.1 z.1.2.1.2.1.2.1 z.1.2.1.2.1.2.2,arP z.1.2.1.2.1.1,yWv z.1.2.2 d n (v+1) D2.life,rsP z.2.1 p n z.2.2.1.1 r.length z.2.2.1.2 (v+1:Nat) (some ⟨z.2.2.2,0,none⟩) D.life false,yA1 p D2,yAO z.2.2.1 r,rjP z.2.2.2 p n (v+1) 0 false D2.life]):=by
 have cn:=yF7 hE hg 0 zO;rw [yTR] at cn;refine zE func26 ntmps26 fun R=>?_;repeat' (first|refine xca cr fun y=>?_|refine xca co fun x=>?_|refine yAt ?_;refine yAa (yAe (q:=true) rfl rfl rfl) ?_|refine znf ?_|refine yAo ?_;refine yAa (yQV (r:=false) rfl rfl rfl) ?_|refine xst ?_|refine xsf ?_ ?_|intro _)
 all_goals (exact xdn (x,y))
end
structure SOp where
 kind:Int
 n:Int
 key:zB
 hi:zB
 oa:Option Addr
 oc:Nat
 ops:List BOp
 ka:Option Addr
 kc:Nat
 kept:List Bool
 torn:Int
 bytes:Int
def yEW (o:SOp):List Value:=[zi o.kind,zi o.n,strV o.key,strV o.hi,.slice o.oa o.ops.length o.oc,.slice o.ka o.kept.length o.kc,zi o.torn,zi o.bytes]
theorem yRx:EncOk yEW 8:=⟨fun _=>rfl,fun x=>by unfold yEW;exact xO,zO⟩
structure SOpOk (W:World) (o:SOp):Prop where
 num:-9223372036854775808≤o.n∧o.n≤9223372036854775807
 key:o.key.length+1≤1048576
 hi:o.hi.length≤1048576
 lies:xCs W opC 3 (.slice o.oa o.ops.length o.oc) o.ops
 fit:OpsFit o.ops
 kept:BoolsAt W (.slice o.ka o.kept.length o.kc) o.kept
section
open Go Go.RowKit Go.ChangeShapes Go.WideShapes Go.Deep
theorem yL9:prog.cellsOf 43=8:=zK
instance:Inhabited SOp:=⟨⟨0,0,[],[],none,0,[],none,0,[],0,0⟩⟩
section
variable {H:Type} {enc:TypeId × Value→H} {W:World} {base:Nat} {held:Bool}
theorem yWi {r:Reach} {b0:Nat} {v:Value} {d:DataW H} {p:List MemPlace} (hv:Value.okWide prog W r b0 22 v) (h:DataW.Trod enc prog W base (fun _=>true) held 22 v d p) (hd:Rows.uptoBulk d≤1048576) :∃ (ls:List SOp) (ad:Option Addr) (c:Nat),v=.slice ad ls.length c∧xCs W yEW 8 (.slice ad ls.length c) ls∧ls.length≤1048576∧∀ x ∈ ls,SOpOk W x:=by
 obtain ⟨n,hf⟩:=yPo underlying22 hv h;obtain ⟨l,ad,c,e,hb,-,-,-,hx,hz⟩:=yQE (α:=SOp) underlying22 yL9 zO (fun s cs D=>cs=yEW s∧(Rows.uptoBulk D≤1048576→SOpOk W s)) (fun n cs x hx=>by
  obtain ⟨xs,m,_,rfl,hl,df,hf⟩:=DataW.trod_struct underlying43 hx;rw [yL9] at hl
  match cs,hl with
  |[c0,c1,c2,c3,c4,c5,c6,c7],_=>
   match xs,df with
   |[y0,y1,y2,y3,y4,y5],_=>
    have h0:DataW.trod enc prog W base (fun _=>true) held m 3 [c0]=some y0:=yC8 hf 0 rfl yJz;have h1:DataW.trod enc prog W base (fun _=>true) held m 3 [c1]=some y1:=yC8 hf 1 rfl yJz;have h2:DataW.trod enc prog W base (fun _=>true) held m 9 [c2]=some y2:=yC8 hf 2 rfl yGS;have h3:DataW.trod enc prog W base (fun _=>true) held m 9 [c3]=some y3:=yC8 hf 3 rfl yGS;have h4:DataW.trod enc prog W base (fun _=>true) held m 38 [c4]=some y4:=yC8 hf 4 rfl ySF;have h5:DataW.trod enc prog W base (fun _=>true) held m 41 [c5,c6,c7]=some y5:=yC8 hf 5 rfl yOu;obtain ⟨n0,e0,_,w0⟩:=DataW.trod_int underlying3 h0;obtain ⟨n1,e1,_,w1⟩:=DataW.trod_int underlying3 h1;obtain ⟨s2,e2,f2⟩:=DataW.trod_string underlying9 h2;obtain ⟨s3,e3,f3⟩:=DataW.trod_string underlying9 h3;obtain ⟨os,oa,oc,e4,a1,a2,-,a4⟩:=yP5 h4;obtain ⟨kv,kept,torn,bytes,e5,hk,-⟩:=ySH h5;have eH:=hk;obtain ⟨ka,kc,rfl,-⟩:=eH;simp only [List.cons.injEq,and_true] at e0 e1 e2 e3 e4 e5;obtain ⟨rfl,rfl,rfl⟩:=e5;subst e0;subst e1;subst e2;subst e3;subst e4;have pl:=yJ5 (H:=H) ([y0,y1,y2,y3,y4,y5].map (·.1));have q0:=yYB (H:=H) y0.1;have m2:Rows.uptoBulk y0.1+Rows.uptoBulk y2.1≤Rows.uptoBulkAll ([y0,y1,y2,y3,y4,y5].map (·.1)):=by simp only [List.map_cons,List.map_nil,Rows.uptoBulkAll];omega
    have m3:=yIE (H:=H) (d:=y3.1) (l:=[y0,y1,y2,y3,y4,y5].map (·.1)) zW;have m4:=yIE (H:=H) (d:=y4.1) (l:=[y0,y1,y2,y3,y4,y5].map (·.1)) zW;have k2:s2.data.toList.length≤Rows.uptoBulk y2.1:=by rw [f2.1,yHO];omega
    have k3:s3.data.toList.length≤Rows.uptoBulk y3.1:=by rw [f3.1,yHO];omega
    refine ⟨⟨n0,n1,s2.data.toList,s3.data.toList,oa,oc,os,ka,kc,kept,torn,bytes⟩,rfl,fun hd=>?_⟩;have hd:Rows.uptoBulk (.agg ([y0,y1,y2,y3,y4,y5].map (·.1)))≤1048576:=hd;exact ⟨ySz w1,by dsimp only;omega,by dsimp only;omega,a1,⟨by dsimp only;omega,fun o ho=>by have:=a4 o ho;omega⟩,hk⟩) hf
 simp only [List.cons.injEq,and_true] at e;refine ⟨l,ad,c,e,⟨ad,c,rfl,fun ao=>?_⟩,Nat.le_trans hb hd,fun t ht=>?_⟩
 ·obtain ⟨b,o,h1,h2,h3⟩:=hx ao;refine ⟨b,o,h1,h2,fun i x hx=>?_⟩;obtain ⟨cs,D,⟨rfl,_⟩,_,_,h4⟩:=h3 i x hx;exact h4
 ·obtain ⟨i,hi,he⟩:=List.mem_iff_getElem.1 ht;obtain ⟨b,o',h1,h2,h3⟩:=hx (by intro e;rw [e] at ht;cases ht);obtain ⟨cs,D,⟨_,k1⟩,k3,-⟩:=h3 i t (by rw [zLb hi,he]);exact k1 (Nat.le_trans k3 hd)
end
end
section
variable {W:World} {p n t:Nat} {D:Dsk} {r:Rows}
instance xAQ:FnIs prog 71:=⟨zK⟩
instance yZe:FnIs prog 44:=⟨zK⟩
instance xAR:FnIs prog 42:=⟨zK⟩
instance yZf:FnIs prog 40:=⟨zK⟩
instance yWw:FnIs prog 34:=⟨zK⟩
instance yYf:FnIs prog 32:=⟨zK⟩
theorem yFL (ra:Option Addr) (rl rc:Nat) (v:Int) (j:Option Addr) (life:Int) (dead:Bool) :CtU prog W 71 [zPp t] [rsP t p n ra rl rc v j life dead,yA1 p D] (.bool (yBi D life dead)) [rsP t p n ra rl rc v j life (yBi D life dead),yA1 p D]:=by
 refine zE func71 ntmps71 fun R=>?_;refine KJ.unpack_at (F:=yCE p D) xS (fun x=>?_);obtain ⟨sv,wv⟩:=x;rcases Bool.eq_false_or_eq_true D.off with ho|ho
 ·have e:yBi D life dead=true:=by unfold yBi;rw [ho];rfl
  rw [e,yAZ,ho];repeat' (first|refine xst ?_|refine xsf ?_ ?_|refine xdr 1 yWe ?_|apply zN|intro _)
  refine KJ.pack (tag:=21) (key:=p) (F:=yCE p D) (sv,wv) (by rw [yAZ,ho];exact xP) ?_
  (exact xdn ())
 by_cases hl:D.life=life
 ·have e:yBi D life dead=dead:=by unfold yBi;rw [ho,zZ (by simpa using hl)];rfl
  rw [e,yAZ,ho];repeat' (first|refine xqa ?_|refine xsf ?_ ?_|refine xdr 1 yWe ?_|apply zN|intro _)
  refine KJ.pack (tag:=21) (key:=p) (F:=yCE p D) (sv,wv) (by rw [yAZ,ho];exact xP) ?_
  (exact xdn ())
 ·have e:yBi D life dead=true:=by unfold yBi;rw [ho,zY (by simpa using hl)];rfl
  rw [e,yAZ,ho];repeat' (first|refine xqa ?_|refine xsf ?_ ?_|refine xdr 1 yWe ?_|apply zN|intro _)
  refine KJ.pack (tag:=21) (key:=p) (F:=yCE p D) (sv,wv) (by rw [yAZ,ho];exact xP) ?_
  (exact xdn ())
theorem yJn (h2:n≤65536) (ra:Option Addr) (rl rc:Nat) (v:Int) (j:Option Addr) (life:Int) (dead:Bool):CtU prog W 44 [zPp t] [rsP t p n ra rl rc v j life dead] (zi (yA2 (yA7 n:Nat))) [rsP t p n ra rl rc v j life dead]:=by have c1:=yPB (W:=W) (yA7 n:Nat) (by unfold yA7;omega);refine zE func44 ntmps44 fun R=>?_;repeat' (first|refine xst ?_|refine xsf ?_ ?_|exact xdn ()|intro _)
theorem yLj (h2:n≤65536) (ra:Option Addr) (rl rc:Nat) (v:Int) (j:Option Addr) (life:Int) (dead:Bool):CtU prog W 42 [zPp t] [rsP t p n ra rl rc v j life dead] (zi ((234*yAA n:Nat))) [rsP t p n ra rl rc v j life dead]:=by have c1:=yFa (W:=W) (n:=yAA n) (by unfold yAA;omega);refine zE func42 ntmps42 fun R=>?_;repeat' (first|refine xst ?_|refine xsf ?_ ?_|exact xdn ()|intro _)
theorem yOK (A B:SP) (ra:Option Addr) (rc:Nat) (hA:Lv W rC 2 A ra r) (hr:RisR r) (v:Int) (j:Option Addr) (life:Int) (dead:Bool) (ob:Option Addr) (oc:Nat) (ops:List BOp) (hB:Lv W opC 3 B ob ops) (hl:(r.length+ops.length)*32≤140737488355328) (hs:(yAk (yAP r ops)).length≤4611686018427387904) :CtU prog W 40 [zPp t,.slice ob ops.length oc] [A,B,rsP t p n ra r.length rc v j life dead] (zi ((yAk (yAP r ops)).length:Nat)) [A,B,rsP t p n ra r.length rc v j life dead]:=by
 have cap:=yFf (W:=W) A B ra ob rc oc r ops hA hB hr hl;obtain ⟨r2,aN⟩:∃ r2,r2=yAP r ops:=⟨_,rfl⟩;rw [← aN] at cap hs ⊢;have bj:=fun x:Option Addr × Nat=>yEe (W:=W) (yAO x r2) x.1 x.2 r2 (Lv.own (e:=64) (c:=x.2) yBp rfl) hs;refine zE func40 ntmps40 fun R=>?_;repeat' (first|refine xca (bj y) fun _=>?_|refine xca cap fun y=>?_|refine xst ?_|refine xsf ?_ ?_|exact xdn ()|intro _)
theorem yJu (ra:Option Addr) (rl rc:Nat) (v:Int) (j:Option Addr) (life:Int) (dead:Bool) (h:yBi D life dead=true):CtU prog W 34 [zPp t] [rsP t p n ra rl rc v j life dead,yA1 p D] (zi 12) [rsP t p n ra rl rc v j life true,yA1 p D]:=by have cd:=yFL (W:=W) (t:=t) (p:=p) (n:=n) (D:=D) ra rl rc v j life dead;rw [h] at cd;refine zE func34 ntmps34 fun R=>?_;repeat' (first|refine xst ?_|refine xsf ?_ ?_|exact xdn ()|intro _)
theorem yEV {X:Type} {A:SP} (aj:Still D) (ra:Option Addr) (rl rc:Nat) (v:Int) (j:Option Addr) {e:Nat} {H':X→List SP} (cn:Ct prog W 75 [zPp t] [A,rsP t p n ra rl rc v j D.life false,yA1 p D] (fun _:X=>.int .i64 (e:Nat)) H') :Ct prog W 34 [zPp t] [A,rsP t p n ra rl rc v j D.life false,yA1 p D] (fun _:X=>.int .i64 (e:Nat)) H':=by
 have cd:=yFL (W:=W) (t:=t) (p:=p) (n:=n) (D:=D) ra rl rc v j D.life false;rw [show yBi D D.life false=false by unfold yBi;rw [aj.on];simp] at cd;have cx:Ct prog W 75 [zPp t] [A,rsP t p n ra rl rc v j D.life false,yA1 p D] (fun _:X=>.int .i64 (e:Nat)) (fun x=>[yDx 43 (H' x)]):=cn.conv (fun _ _ q=>q) (fun _ R h q=>yCn q)
 suffices h:Ct prog W 34 [zPp t] [A,rsP t p n ra rl rc v j D.life false,yA1 p D] (fun _:X=>.int .i64 (e:Nat)) (fun x=>[yDx 43 (H' x)]) from h.conv (fun _ _ q=>q) (fun _ R h q=>yCf q)
 refine zE func34 ntmps34 fun R=>?_;repeat' (first|refine xca cx fun x=>?_|refine xst ?_|refine xsf ?_ ?_|intro _)
 all_goals (exact xdn x)
end
theorem Dsk.writeD_n (D:Dsk) (i:Int) (s:zB):(D.writeD i s).n=D.n:=by
 unfold Dsk.writeD;split
 ·rfl
 split
 ·split
  ·dsimp only;split
   ·exact Dsk.gone_n _
   ·exact Dsk.gone_n _
  ·rfl
 ·rfl
theorem Dsk.flushD_n (D:Dsk):D.flushD.n=D.n:=by
 unfold Dsk.flushD;split
 ·rfl
 split
 ·exact Dsk.gone_n _
 ·exact Dsk.gone_n _
theorem Dsk.flushD_und (D:Dsk):D.flushD.und.length≤D.und.length:=by
 unfold Dsk.flushD;split
 ·exact Nat.le_refl _
 split
 ·rw [Dsk.gone_und];exact Nat.le_refl _
 ·exact zLA _
theorem yWj (at_:Int) (ver used:Nat):∀ (ps:List zB) (i:Nat) (D:Dsk),D.ok→(yBU at_ ver used ps i D).2.ok∧(yBU at_ ver used ps i D).2.n=D.n∧(yBU at_ ver used ps i D).2.und.length≤D.und.length+ps.length:=by
 intro ps
 induction ps with
 |nil=>intro i D h;exact ⟨h,rfl,Nat.le_refl _⟩
 |cons q ps ih=>
  intro i D h
  have aG:yBU at_ ver used (q::ps) i D=if D.writeE (at_+(used:Nat)+(i:Nat)) (yAF (yA8 ver (used+i):Nat) q)≠0 then (false,D.writeD (at_+(used:Nat)+(i:Nat)) (yAF (yA8 ver (used+i):Nat) q))
   else yBU at_ ver used ps (i+1) (D.writeD (at_+(used:Nat)+(i:Nat)) (yAF (yA8 ver (used+i):Nat) q)):=rfl
  rw [aG];have h1:=Dsk.writeD_ok h (at_+(used:Nat)+(i:Nat)) (yAF (yA8 ver (used+i):Nat) q);have h2:=Dsk.writeD_n D (at_+(used:Nat)+(i:Nat)) (yAF (yA8 ver (used+i):Nat) q);have h3:=yDE D (at_+(used:Nat)+(i:Nat)) (yAF (yA8 ver (used+i):Nat) q);split
  ·exact ⟨h1,h2,by rw [zLj];dsimp only;omega⟩
  ·obtain ⟨a,b,c⟩:=ih (i+1) _ h1;exact ⟨a,b.trans h2,by rw [zLj];omega⟩
structure AppWays (D:Dsk) (n v used:Nat) (rc:zB):Prop where
 way:((yBU (yAN n:Nat) v used (yBw rc) 0 D).1=true∧(yBU (yAN n:Nat) v used (yBw rc) 0 D).2.off=false∧(yBU (yAN n:Nat) v used (yBw rc) 0 D).2.flushE=0∧Still (yBU (yAN n:Nat) v used (yBw rc) 0 D).2.flushD)∨
  ((yBU (yAN n:Nat) v used (yBw rc) 0 D).1=true∧(yBU (yAN n:Nat) v used (yBw rc) 0 D).2.off=false∧(yBU (yAN n:Nat) v used (yBw rc) 0 D).2.flushE=12∧(yBU (yAN n:Nat) v used (yBw rc) 0 D).2.flushD.off=true)∨
  ((yBU (yAN n:Nat) v used (yBw rc) 0 D).1=false∧(yBU (yAN n:Nat) v used (yBw rc) 0 D).2.off=true)
 life:(yBU (yAN n:Nat) v used (yBw rc) 0 D).2.life=D.life
 und:(yBU (yAN n:Nat) v used (yBw rc) 0 D).2.und.length≤yA7 n
 ok:(yBU (yAN n:Nat) v used (yBw rc) 0 D).2.ok
 nn:(yBU (yAN n:Nat) v used (yBw rc) 0 D).2.n=n
 flife:(yBU (yAN n:Nat) v used (yBw rc) 0 D).2.flushD.life=D.life∨(yBU (yAN n:Nat) v used (yBw rc) 0 D).1=false
 fund:(yBU (yAN n:Nat) v used (yBw rc) 0 D).2.flushD.und.length≤yA7 n
 fok:(yBU (yAN n:Nat) v used (yBw rc) 0 D).2.flushD.ok
 fnn:(yBU (yAN n:Nat) v used (yBw rc) 0 D).2.flushD.n=n
theorem yIt {D:Dsk} {n:Nat} (aj:Still D) (hn:D.n=n) (h1:64≤n) (v used:Nat) (rc:zB) (ak:used+(yBw rc).length≤yA7 n):AppWays D n v used rc:=by
 obtain ⟨f1,f2,f3,f4⟩:=yBf h1 v;obtain ⟨x1,x2,x3,x4,x5⟩:=yUH (yAN n) v used (yBw rc) 0 D aj.on aj.ok (yIH _) zO;obtain ⟨-,-,k3⟩:=yWj (yAN n:Nat) v used (yBw rc) 0 D aj.ok;rw [aj.und,List.length_nil] at k3;rw [hn] at x3;obtain ⟨X,hX⟩:∃ X,X=yBU (yAN n:Nat) v used (yBw rc) 0 D:=⟨_,rfl⟩;have hu:=Dsk.flushD_und X.2;have hk:=Dsk.flushD_ok (D:=X.2) (by rw [hX];exact x4);have dc:=Dsk.flushD_n X.2;rw [← hX] at x1 x3 x4 x5 k3;constructor <;> rw [← hX]
 ·rcases x1 with ⟨y1,y2,-⟩|⟨y1,y2,-⟩
  ·obtain ⟨w1,-,-⟩:=yLI y2;obtain ⟨o1,-⟩:=yUG y2;rcases w1 with ⟨g1,g2,g3,-⟩|⟨g1,-,-⟩
   ·exact .inl ⟨y1,y2,g1,g2,g3,hk⟩
   ·exact .inr (.inl ⟨y1,y2,g1,o1 g1⟩)
  ·exact .inr (.inr ⟨y1,y2⟩)
 ·exact x5
 ·omega
 ·exact x4
 ·exact x3
 ·rcases x1 with ⟨y1,y2,-⟩|⟨y1,y2,-⟩
  ·exact .inl (by rw [(yUG y2).2];exact x5)
  ·exact .inr y1
 ·omega
 ·exact hk
 ·omega
structure CmO where
 e:Nat
 D:Dsk
 r:Rows
 v:Nat
 u:Nat
 dead:Bool
def cmJ (n:Nat) (D:Dsk) (r r2:Rows) (w v u:Nat) (b:zB):CmO:=
 if xDj D n v u b=0 then ⟨0,xC9 D n v u b,r2,v,u+(yBw b).length,false⟩ else ⟨12,xC9 D n v u b,r,w,0,true⟩
def cmO (n:Nat) (D:Dsk) (r:Rows) (v u:Nat) (ops:List BOp):CmO:=
 if yAR ops=[]∨yE6 n r ops≠0 then ⟨yE6 n r ops,D,r,v,u,false⟩
 else if u+(yBw (yBx (yAR ops))).length≤yA7 n then cmJ n D r (yAP r (yAR ops)) v v u (yBx (yAR ops))
 else if 1099511627776≤v then ⟨16,D,r,v,u,false⟩
 else if yDW D n v r=0 then cmJ n (yCk D n v r) r (yAP r (yAR ops)) v (v+1) 0 (yBx (yAR ops))
 else ⟨12,yCk D n v r,r,v,0,true⟩
def ifP (dead:Bool) (A:SP):SP:=match dead with|true=>noP|false=>A
inductive CmJ (n:Nat) (D:Dsk) (r r2:Rows) (w v u:Nat) (b:zB) (o:CmO):Prop where
 |all (y1:(yBU (yAN n:Nat) v u (yBw b) 0 D).1=true) (y3:(yBU (yAN n:Nat) v u (yBw b) 0 D).2.flushE=0) (h:o=⟨0,(yBU (yAN n:Nat) v u (yBw b) 0 D).2.flushD,r2,v,u+(yBw b).length,false⟩)
 |flush (y1:(yBU (yAN n:Nat) v u (yBw b) 0 D).1=true) (y3:(yBU (yAN n:Nat) v u (yBw b) 0 D).2.flushE=12) (h:o=⟨12,(yBU (yAN n:Nat) v u (yBw b) 0 D).2.flushD,r,w,0,true⟩)
 |write (y1:(yBU (yAN n:Nat) v u (yBw b) 0 D).1=false) (h:o=⟨12,(yBU (yAN n:Nat) v u (yBw b) 0 D).2,r,w,0,true⟩)
structure CmOk (n:Nat) (D:Dsk) (o:CmO):Prop where
 e:o.e≤37
 nn:o.D.n=n
 life:o.D.life=D.life
 ok:o.D.ok
 und:o.D.und.length≤65536
 way:(o.dead=true∧o.D.off=true)∨(o.dead=false∧Still o.D)
 room:(yAk o.r).length≤234*yAA n
 ris:RisR o.r
 v1:1≤o.v∧o.v≤1099511627776
 us:o.u≤yA7 n
theorem yJK {D0 D:Dsk} {n:Nat} (aj:Still D) (hn:D.n=n) (hl:D.life=D0.life) (h1:64≤n) (h2:n≤65536) {r r2:Rows} (hr:RisR r) (aN:RisR r2) (hm:(yAk r).length≤234*yAA n) (dy:(yAk r2).length≤234*yAA n) (w v u:Nat) (hw:1≤w∧w≤1099511627776) (hv:1≤v∧v≤1099511627776) (b:zB) (ak:u+(yBw b).length≤yA7 n) {o:CmO} (ho:o=cmJ n D r r2 w v u b) :CmJ n D r r2 w v u b o∧CmOk n D0 o:=by
 obtain ⟨way,life,und,ok,nn,flife,fund,fok,fnn⟩:=yIt aj hn h1 v u b ak;have cP:yA7 n≤65536:=by unfold yA7;omega
 unfold cmJ xDj xC9 at ho;rcases way with ⟨y1,-,y3,y4⟩|⟨y1,-,y3,y4⟩|⟨y1,y2⟩
 ·have ao:¬ (yBU (yAN n:Nat) v u (yBw b) 0 D).1=false:=by rw [y1];simp
  rw [if_neg ao,if_neg ao,y3,if_pos rfl] at ho;have hf:=flife.resolve_right (by rw [y1];simp);exact ⟨.all y1 y3 ho,by subst ho;exact ⟨by dsimp only;omega,fnn,by dsimp only;rw [hf,hl],fok,by dsimp only;omega,.inr ⟨rfl,y4⟩,dy,aN,hv,ak⟩⟩
 ·have ao:¬ (yBU (yAN n:Nat) v u (yBw b) 0 D).1=false:=by rw [y1];simp
  rw [if_neg ao,if_neg ao,y3,if_neg (by omega:¬ (12:Nat)=0)] at ho;have hf:=flife.resolve_right (by rw [y1];simp);exact ⟨.flush y1 y3 ho,by subst ho;exact ⟨by dsimp only;omega,fnn,by dsimp only;rw [hf,hl],fok,by dsimp only;omega,.inl ⟨rfl,y4⟩,hm,hr,hw,zLA _⟩⟩
 ·rw [if_pos y1,if_pos y1,if_neg (by omega:¬ (12:Nat)=0)] at ho;exact ⟨.write y1 ho,by subst ho;exact ⟨by dsimp only;omega,nn,by dsimp only;rw [life,hl],ok,by dsimp only;omega,.inl ⟨rfl,y2⟩,hm,hr,hw,zLA _⟩⟩
theorem xCi {D:Dsk} {n:Nat} (aj:Still D) (hn:D.n=n) (h1:64≤n) (h2:n≤3000) {r:Rows} (hr:RisR r) (hm:(yAk r).length≤234*yAA n) {v u:Nat} (hv:1≤v∧v≤1099511627776) (hu:u≤yA7 n) (ops:List BOp) {o:CmO} (ho:o=cmO n D r v u ops):CmOk n D o:=by
 have cP:1≤yA7 n∧yA7 n≤65536:=by unfold yA7 yAA;omega
 have bJ:=yDj hr (yAR ops);have aX:yE6 n r ops=if yAR ops=[] then 0 else if yA2 (yA7 n:Nat)<((yBx (yAR ops)).length:Nat) then 18 else if 234*yAA n<(yAk (yAP r (yAR ops))).length then 17 else 0:=rfl
 have same:∀ e,e≤37→o=⟨e,D,r,v,u,false⟩→CmOk n D o:=fun e he h=>by subst h;exact ⟨he,hn,rfl,aj.ok,by dsimp only;rw [aj.und];simp,.inr ⟨rfl,aj⟩,hm,hr,hv,hu⟩
 unfold cmO at ho;by_cases h0:yAR ops=[]∨yE6 n r ops≠0
 ·rw [if_pos h0] at ho;refine same _ ?_ ho;rw [aX];repeat' split
  all_goals omega
 rw [if_neg h0] at ho;have hz:yAR ops≠[]:=fun h=>h0 (.inl h);have hc:yE6 n r ops=0:=Classical.byContradiction fun h=>h0 (.inr h);rw [aX,if_neg hz] at hc;have hg:¬ yA2 (yA7 n:Nat)<((yBx (yAR ops)).length:Nat):=fun h=>by rw [if_pos h] at hc;cases hc
 rw [if_neg hg] at hc;have dy:¬ 234*yAA n<(yAk (yAP r (yAR ops))).length:=fun h=>by rw [if_pos h] at hc;cases hc
 have dS:=yGQ cP.1 cP.2 (show ((yBx (yAR ops)).length:Int)≤yA2 (yA7 n:Nat) by omega);have bk:=yB2 (yBx (yAR ops));by_cases hf:u+(yBw (yBx (yAR ops))).length≤yA7 n
 ·rw [if_pos hf] at ho;exact (yJK aj hn rfl h1 zO hr bJ hm zO v v u hv hv _ hf ho).2
 rw [if_neg hf] at ho;by_cases hw:1099511627776≤v
 ·rw [if_pos hw] at ho;exact same 16 zO ho
 rw [if_neg hw] at ho;have fw:=yC7 aj hn h1 zO v zO r hm;rcases fw.way with ⟨z,zs⟩|⟨z,zo⟩
 ·rw [if_pos z] at ho;exact (yJK zs fw.nn fw.life h1 zO hr bJ hm zO v (v+1) 0 hv zO _ zO ho).2
 ·rw [if_neg zO] at ho;subst ho;exact ⟨by dsimp only;omega,fw.nn,fw.life,fw.ok,fw.und,.inl ⟨rfl,zo⟩,hm,hr,hv,zLA _⟩
section
variable {W:World}
theorem yTb (A:SP) (a:Option Addr) (c:Nat) (ops:List BOp) (hL:Lv W opC 3 A a ops) (ai:(yBx ops).length+64≤140737488355328) (jo:ops.length≤140737488355328) :CtU prog W 73 [.slice a ops.length c] [A] (.tuple #[strV (yEu ops).1,zi ((yEu ops).2:Nat)]) [A]:=by
 have cn:=yGN (W:=W) ops.length zO;refine zE func73 ntmps73 fun R=>?_;repeat' (first|refine xst ?_|refine xsf ?_ ?_|refine xdr 4 yJm ?_|apply zN|intro _)
 refine yAC (fun i:{i:Nat//(i=0∨i<ops.length)∧AdjTo ops (i+1)}=>[(0,.slice a ops.length c),(4,zi ((i.1+1:Nat):Int))])
  (fun i=>[A]++R) (fun i=>ops.length-i.1) ⟨0,.inl rfl,AdjTo.one ops⟩ xB (xN) (fun ⟨i,hi,gW⟩=>?_)
 dsimp only;by_cases hlt:i+1<ops.length
 ·have ql:decide (((i+1:Nat):Int)<(ops.length:Nat))=true:=zY zO;obtain ⟨x,hx⟩:∃ s,ops[i]? = some s:=⟨_,zLb zO⟩;obtain ⟨y,hy⟩:∃ s,ops[i+1]? = some s:=⟨_,zLb hlt⟩;refine KJ.lvSome hL xS zO (fun b of aJ=>?_);subst aJ;have bD:of+Int.toNat ((i+1:Nat):Int)*3+1=of+(i+1)*3+1:=zW;have gU:of+Int.toNat ((i:Nat):Int)*3+1=of+i*3+1:=zW;have kx:(opC x)[1]? = some (strV x.key):=rfl;have ky:(opC y)[1]? = some (strV y.key):=rfl;have bI:=yHp y.key x.key;cases hl:Op.bytesLess x.key y.key with
  |true=>
   rw [hl,Bool.not_true] at bI;repeat' (first|(refine yAi ?_;first|refine yAa (yA0 yAY hL rfl rfl xS gU hx kx) ?_|refine yAa (yA0 yAY hL rfl rfl xS bD hy ky) ?_)|refine zad (i+1+1) ?_|refine yCj ?_;refine yAa (yBl (r:=((i:Nat):Int)) rfl rfl zO zO) ?_|refine xqa ?_|refine xsf ?_ ?_|refine xdr 4 yJm ?_|apply zN|intro _)
   all_goals refine yAs ⟨i+1,.inr hlt,gW.next hx hy hl⟩ (by show ops.length-(i+1)<ops.length-i;omega) xB (xN)
  |false=>
   rw [hl,Bool.not_false] at bI;have he:=yJj (yOc hx hy hl);repeat' (first|(refine yAi ?_;first|refine yAa (yA0 yAY hL rfl rfl xS gU hx kx) ?_|refine yAa (yA0 yAY hL rfl rfl xS bD hy ky) ?_)|refine yCj ?_;refine yAa (yBl (r:=((i:Nat):Int)) rfl rfl zO zO) ?_|refine xqa ?_|refine xsf ?_ ?_|refine xdr 4 yJm ?_|apply zN|intro _)
   all_goals exact xdn () (hc:=by rw [he];rfl)
 have ql:decide (((i+1:Nat):Int)<(ops.length:Nat))=false:=zZ zO;have hr:yEK ops=true:=AdjTo.rises (ops:=ops) fun j x y hj hx hy=>gW j x y zO hx hy;repeat' (first|refine xca cn fun x=>?_;obtain ⟨gn,cp⟩:=x|refine xqa ?_|refine xsf ?_ ?_|refine xdr 4 yJm ?_|apply zN|intro _)
 refine yAC (fun x:{x:Nat × zB × Nat × Nat//x.1≤ops.length∧x.2.1=yE4 ops x.1∧∀ j o,ops[j]? = some o→j<x.1→yHo o=true}=>[(5,.slice (some ⟨x.1.2.2.1,0,none⟩) x.1.2.1.length x.1.2.2.2),(30,.slice a ops.length c),(31,zi (ops.length:Nat)),(32,zi (x.1.1:Nat))])
  (fun x=>[byP (.slice (some ⟨x.1.2.2.1,0,none⟩) x.1.2.1.length x.1.2.2.2) x.1.2.1,A]++R) (fun x=>ops.length-x.1.1) ⟨(0,vu ops.length,gn,cp),zLA _,(yLN ops).symm,fun _ _ _ h=>absurd h (Nat.not_lt_zero _)⟩ xB (xN) (fun ⟨(i,X,g,cc),hi,hX,hf⟩=>?_)
 dsimp only at hi hX hf ⊢;by_cases hlt:i<ops.length
 ·have ql:decide ((i:Int)<(ops.length:Nat))=true:=zY zO;obtain ⟨o,ho⟩:∃ s,ops[i]? = some s:=⟨_,zLb hlt⟩;refine KJ.lvSome hL xS zO (fun b of aJ=>?_);subst aJ;have ae:of+Int.toNat (i:Int)*3=of+i*3:=zW;have cY:=yOe ho;have ax:=yIP ho;have ii:yHo o=true→∀ j o',ops[j]? = some o'→j<i+1→yHo o'=true:=fun dR j o' h1 h2=>by
   by_cases e:j=i
   ·subst e;rw [ho] at h1;cases h1;exact dR
   ·exact hf j o' h1 zO
  rw [← hX] at cY ax;obtain ⟨del,key,val⟩:=o;have tk:(tx key).length=(vu key.length).length+key.length:=by unfold tx;simp
  have tv:(tx val).length=(vu val.length).length+val.length:=by unfold tx;simp
  cases del with
  |false=>
   rw [yH4] at cY ax;simp only [zLj,zLa] at cY;have ctk:=yGN (W:=W) key.length zO;have ctv:=yGN (W:=W) val.length zO;have b1:(X.length+1)*1≤140737488355328:=zO;have b2:X.length+1≤9223372036854775807:=zO;have b3:((X++[(0:UInt8)]).length+(vu key.length).length)*1≤140737488355328:=by simp only [zLa,List.length_singleton];omega
   have b4:(X++[(0:UInt8)]).length+(vu key.length).length≤9223372036854775807:=zO;have b5:(X++[(0:UInt8)]++vu key.length).length+key.length≤140737488355328:=by simp only [zLa,List.length_singleton];omega
   have b6:((X++[(0:UInt8)]++vu key.length++key).length+(vu val.length).length)*1≤140737488355328:=by simp only [zLa,List.length_singleton];omega
   have b7:(X++[(0:UInt8)]++vu key.length++key).length+(vu val.length).length≤9223372036854775807:=zO;have b8:(X++[(0:UInt8)]++vu key.length++key++vu val.length).length+val.length≤140737488355328:=by simp only [zLa,List.length_singleton];omega
   have p2:0<(X++[(0:UInt8)]++vu key.length++key++vu val.length).length:=by simp only [zLa,List.length_singleton];omega
   have a7:X++[(0:UInt8)]++vu key.length++key++vu val.length++val=yE4 ops (i+1):=by rw [ax];unfold tx;simp
   have p1:0<(X++[(0:UInt8)]++vu key.length).length:=by simp only [zLa,List.length_singleton];omega
   repeat' (first|refine zal fun g5=>?_|refine xca ctv fun x=>?_;obtain ⟨gv,cv⟩:=x|refine xca ctk fun x=>?_;obtain ⟨gk,ck⟩:=x|(refine yAQ ?_;first|refine yGJ (l:=X++[(0:UInt8)]++vu key.length++key++vu val.length) (m:=val) rfl rfl xS (.inr rfl) b8 rfl (fun g6 c6=>?_)|refine yGe (l:=X++[(0:UInt8)]++vu key.length++key) (l2:=vu val.length) yE3 rfl rfl rfl rfl xS (Src.lv (Lv.own (c:=cv) yE3 rfl) (fun _=>rfl) xS) b6 b7 rfl (fun a4 c4=>?_);refine KJ.lsSome xS p2 (fun g4 hg4=>?_);subst hg4|refine yGJ (l:=X++[(0:UInt8)]++vu key.length) (m:=key) rfl rfl xS (.inr rfl) b5 rfl (fun g3 c3=>?_)|refine yGe (l:=X++[(0:UInt8)]) (l2:=vu key.length) yE3 rfl rfl rfl rfl xS (Src.lv (Lv.own (c:=ck) yE3 rfl) (fun _=>rfl) xS) b3 b4 rfl (fun a2 c2=>?_);refine KJ.lsSome xS p1 (fun g2 ed=>?_);subst ed|refine yBm (a:=(0:UInt8)) yE3 rfl rfl rfl xS xS b1 b2 rfl (fun g1 c1=>?_))|refine yAD ?_;refine yAK rfl xF (by rfl) zO rfl (fun gb=>?_)|refine yAi ?_;refine yAa (yBa yAY hL rfl rfl xS ae ho) ?_|refine zad (i+1) ?_|refine xqa ?_|refine xsf ?_ ?_|refine xdr 4 yJm ?_|apply zN|intro _)
   all_goals refine yAs ⟨(i+1,X++[(0:UInt8)]++vu key.length++key++vu val.length++val,g6,c6),hlt,a7,ii rfl⟩ (by show ops.length-(i+1)<ops.length-i;omega) xB (xN)
  |true=>
   by_cases hv:val=[]
   ·subst hv;rw [yH3] at cY ax;simp only [zLj] at cY;have ctk:=yGN (W:=W) key.length zO;have b1:(X.length+1)*1≤140737488355328:=zO;have b2:X.length+1≤9223372036854775807:=zO;have b3:((X++[(1:UInt8)]).length+(vu key.length).length)*1≤140737488355328:=by simp only [zLa,List.length_singleton];omega
    have b4:(X++[(1:UInt8)]).length+(vu key.length).length≤9223372036854775807:=zO;have b5:(X++[(1:UInt8)]++vu key.length).length+key.length≤140737488355328:=by simp only [zLa,List.length_singleton];omega
    have a7:X++[(1:UInt8)]++vu key.length++key=yE4 ops (i+1):=by rw [ax];unfold tx;simp
    have p1:0<(X++[(1:UInt8)]++vu key.length).length:=by simp only [zLa,List.length_singleton];omega
    repeat' (first|refine zal fun g5=>?_|refine xca ctk fun x=>?_;obtain ⟨gk,ck⟩:=x|(refine yAQ ?_;first|refine yGJ (l:=X++[(1:UInt8)]++vu key.length) (m:=key) rfl rfl xS (.inr rfl) b5 rfl (fun g3 c3=>?_)|refine yGe (l:=X++[(1:UInt8)]) (l2:=vu key.length) yE3 rfl rfl rfl rfl xS (Src.lv (Lv.own (c:=ck) yE3 rfl) (fun _=>rfl) xS) b3 b4 rfl (fun a2 c2=>?_);refine KJ.lsSome xS p1 (fun g2 ed=>?_);subst ed|refine yBm (a:=(1:UInt8)) yE3 rfl rfl rfl xS xS b1 b2 rfl (fun g1 c1=>?_))|refine yAD ?_;refine yAK rfl xF (by rfl) zO rfl (fun gb=>?_)|refine yAi ?_;refine yAa (yBa yAY hL rfl rfl xS ae ho) ?_|refine zad (i+1) ?_|refine yAo ?_;refine yAa (yDO rfl rfl rfl) ?_|refine xqa ?_|refine xsf ?_ ?_|refine xdr 4 yJm ?_|apply zN|intro _)
    all_goals refine yAs ⟨(i+1,X++[(1:UInt8)]++vu key.length++key,g3,c3),hlt,a7,ii rfl⟩ (by show ops.length-(i+1)<ops.length-i;omega) xB (xN)
   ·have he:=yKu hr ho (by unfold yHo;simp [hv]);repeat' (first|refine zal fun g5=>?_|refine yAi ?_;refine yAa (yBa yAY hL rfl rfl xS ae ho) ?_|refine xqa ?_|refine xsf ?_ ?_|refine xdr 4 yJm ?_|apply zN|intro _)
    all_goals exact xdn () (hc:=by rw [he];rfl)
 have ql:decide ((i:Int)<(ops.length:Nat))=false:=zZ zO;obtain rfl:i=ops.length:=zO;have he:=yOd hr (fun j o h1 h2=>hf j o h1 h2);rw [yKv] at hX;repeat' (first|refine yAu ?_;refine yAa (yOf rfl xS rfl) ?_|refine xqa ?_|refine xsf ?_ ?_|refine xdr 4 yJm ?_|apply zN|intro _)
 all_goals exact xdn () (hc:=by rw [he,hX];rfl)
end
end Go.Proofs.YtoipmnikdiogcaaGreatDoor
