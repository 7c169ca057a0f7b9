/-
  CmD, SuD.
-/
import Derived.Test.YtoipmnikdiogcaaGreatDoorYIA
set_option maxRecDepth 100000
set_option maxHeartbeats 64000000
namespace Go.Proofs.YtoipmnikdiogcaaGreatDoor
open Go Go.RowKit
open Go.Proofs.Tryz
abbrev yZg:Pl:=(.op 0 (.ef 1 [0] (.ef 2 [] .nil)))
abbrev xCj:Pl:=(.op 0 (.op 1 (.ef 2 [0] (.ef 3 [] (.ef 4 [] .nil)))))
abbrev xCk:Pl:=(po [0,1,2,3,4,5,6,7,8] (.ef 9 [] (.op 10 .nil)))
abbrev xCl:Pl:=(po [0,2,3] (.ef 1 [3,2] (.ef 4 [] (.op 5 .nil))))
section
variable {W:World} {p n t rj:Nat} {D:Dsk} {r:Rows}
theorem yLk (ra:Option Addr) (rl rc:Nat) (v:Int) (j:Option Addr) (life:Int) (dead:Bool) (h:yBi D life dead=true) (B:SP) (ob:Option Addr) (ol oc:Nat):CtU prog W 32 [zPp t,.slice ob ol oc] [B,rsP t p n ra rl rc v j life dead,yA1 p D] (zi 12) [B,rsP t p n ra rl rc v j life true,yA1 p D]:=by have cd:=yFL (W:=W) (t:=t) (p:=p) (n:=n) (D:=D) ra rl rc v j life dead;rw [h] at cd;refine zE func32 ntmps32 fun R=>?_;repeat' (first|refine xst ?_|refine xsf ?_ ?_|exact xdn ()|intro _)
theorem yNr (h1:64≤n) (h2:n≤3000) (aj:Still D) (hn:D.n=n) (ra:Option Addr) (rc:Nat) (hr:RisR r) (ah:(yAk r).length≤234*yAA n) (v u:Nat) (hv:1≤v∧v≤1099511627776) (d4:u≤yA7 n) (B:SP) (ob:Option Addr) (oc:Nat) (ops:List BOp) (hB:Lv W opC 3 B ob ops) (ho:ops.length≤100000000) (hb:(yBx (yAR ops)).length≤100000000000000) (f9:(yAk (yAP r (yAR ops))).length≤4611686018427387904) {o:CmO} (hO:o=cmO n D r v u ops) :Ct prog W 32 [zPp t,.slice ob ops.length oc] [B,yAO (ra,rc) r,rsP t p n ra r.length rc (v:Nat) (zq rj) D.life false,yA1 p D,rjP rj p n v u false D.life] (fun _:(Option Addr × Nat) × Nat=>.int .i64 (o.e:Nat)) (fun x=>[B,yAO x.1 o.r,rsP t p n x.1.1 o.r.length x.1.2 (o.v:Nat) (some ⟨x.2,0,none⟩) D.life o.dead,yA1 p o.D,ifP o.dead (rjP x.2 p n o.v o.u false D.life)]):=by
 obtain ⟨du,jp⟩:=yIh ah zO;have hA:=yBr (n:=n) zO;have cP:1≤yA7 n∧yA7 n≤65536:=by unfold yA7 yAA;omega
 obtain ⟨f1,f2,f3,f4⟩:=yBf h1 v;have hRo:Lv W rC 2 (yAO (ra,rc) r) ra r:=Lv.own (e:=64) (c:=rc) yBp rfl;have cd:=yFL (W:=W) (t:=t) (p:=p) (n:=n) (D:=D) ra r.length rc (v:Nat) (zq rj) D.life false;rw [show yBi D D.life false=false by unfold yBi;rw [aj.on];simp] at cd;have cq:=yS1 (W:=W) B ob oc ops hB zO;have dJ:(yAR ops).length≤ops.length:=yKF ops;have dF:=yGo ops;have aX:yE6 n r ops=if yAR ops=[] then 0 else if yA2 (yA7 n:Nat)<((yBx (yAR ops)).length:Nat) then 18 else if 234*yAA n<(yAk (yAP r (yAR ops))).length then 17 else 0:=rfl
 have bJ:=yDj hr (yAR ops);unfold cmO at hO;obtain ⟨ce,fm⟩:∃ e,e=yE6 n r ops:=⟨_,rfl⟩;obtain ⟨os,cQ⟩:∃ os,os=yAR ops:=⟨_,rfl⟩;rw [← fm] at aX hO;rw [← cQ] at cq dJ dF aX hb f9 bJ hO;by_cases hz:os=[]
 ·have q0:decide (((os.length:Nat):Int)=0)=true:=zY (by rw [hz];rfl);rw [if_pos hz] at aX;rw [if_pos (.inl hz),aX] at hO;subst hO;refine zE func32 ntmps32 fun R=>?_;repeat' (first|refine xca cq fun x=>?_;obtain ⟨xa,xc⟩:=x|refine xqa ?_|refine xsf ?_ ?_|intro _)
  all_goals (exact xdn ((ra,rc),rj))
 rw [if_neg hz] at aX;have q0:decide (((os.length:Nat):Int)=0)=false:=zZ (by have:=zLv.2 hz;omega)
 have aA:∀ xa xc,Lv W opC 3 (lsP opC 58 3 (.slice xa os.length xc) os) xa os:=fun xa xc=>Lv.own yAY rfl;have bV:=fun xa xc=>yTb (W:=W) _ xa xc os (aA xa xc) zO zO;rw [dF] at bV;have clg:=yJn (W:=W) (t:=t) (p:=p) (n:=n) zO ra r.length rc (v:Nat) (zq rj) D.life false;have j3:=yLj (W:=W) (t:=t) (p:=p) (n:=n) zO ra r.length rc (v:Nat) (zq rj) D.life false;have cap:=fun xa xc=>yFf (W:=W) (yAO (ra,rc) r) _ ra xa rc xc r os hRo (aA xa xc) hr zO;obtain ⟨r2,aN⟩:∃ r2,r2=yAP r os:=⟨_,rfl⟩;obtain ⟨b,cS⟩:∃ b,b=yBx os:=⟨_,rfl⟩;rw [← aN] at cap f9 aX bJ hO;rw [← cS] at aX bV hb hO;have bj:=fun xa xc=>yEe (W:=W) (yAO (xa,xc) r2) xa xc r2 (Lv.own (e:=64) (c:=xc) yBp rfl) f9;have hlv:=yFH cP.1 cP.2;have bk:=yB2 b;by_cases hg:yA2 (yA7 n:Nat)<(b.length:Nat)
 ·have q1:decide (yA2 (yA7 n:Nat)<(b.length:Nat))=true:=zY hg;rw [if_pos hg] at aX;rw [if_pos (.inr zO),aX] at hO;subst hO;refine zE func32 ntmps32 fun R=>?_;repeat' (first|refine xca (bV _ _) fun _=>?_|refine xca cq fun x=>?_;obtain ⟨xa,xc⟩:=x|refine xqa ?_|refine xsf ?_ ?_|intro _)
  all_goals (exact xdn ((ra,rc),rj))
 have q1:decide (yA2 (yA7 n:Nat)<(b.length:Nat))=false:=zZ hg;have dS:=yGQ cP.1 cP.2 (show (b.length:Int)≤yA2 (yA7 n:Nat) by omega);rw [if_neg hg] at aX;by_cases hm:234*yAA n<(yAk r2).length
 ·have q2:decide (((234*yAA n:Nat):Int)<((yAk r2).length:Nat))=true:=zY zO;rw [if_pos hm] at aX;rw [if_pos (.inr zO),aX] at hO;subst hO;refine zE func32 ntmps32 fun R=>?_;repeat' (first|(refine yAb ?_;first|refine xca (bj _ _) fun _=>?_|refine xca (cap _ _) fun y=>?_;obtain ⟨ya,yc⟩:=y|refine xca (bV _ _) fun _=>?_|refine xca cq fun x=>?_;obtain ⟨xa,xc⟩:=x)|refine xqa ?_|refine xsf ?_ ?_|intro _)
  all_goals (exact xdn ((ra,rc),rj))
 have q2:decide (((234*yAA n:Nat):Int)<((yAk r2).length:Nat))=false:=zZ zO;rw [if_neg hm] at aX;rw [if_neg (fun h=>h.elim hz (fun h=>h aX))] at hO;have iV:=yX8 (W:=W) (p:=p) (g:=rj) (yAN n:Nat) (yA7 n:Nat) (v:Nat) (u:Nat) D.life false b.length zO ⟨zO,zO⟩ ⟨zO,zO⟩;have dG:b.length≤1048576:=by
  have:yA7 n≤1004:=by unfold yA7 yAA;omega
  omega
 clear fm cQ dF;refine zE func32 ntmps32 fun R=>?_
 apply yHm (fun K=>∀ (ya:Option Addr) (yc:Nat) (D1:Dsk) (w k g:Nat),o=cmJ n D1 r r2 v w k b→Still D1→D1.n=n→D1.life=D.life→(1≤w∧w≤1099511627776)→k+(yBw b).length≤yA7 n→
  KJ W 84 K [(0,zPp t),(6,strV b),(8,.slice ya r2.length yc),(9,zi (v:Nat))] ([B,yAO (ra,rc) r,yAO (ya,yc) r2,rsP t p n ra r.length rc (w:Nat) (zq g) D.life false,yA1 p D1,rjP g p n w k false D.life]++R))
 ·intro rest;by_cases ak:u+(yBw b).length≤yA7 n
  ·rw [if_pos ak] at hO;rw [show decide (0≤(b.length:Int)∧yBQ b.length≤(yA7 n:Nat)-(u:Nat))=true from zY ⟨zO,zO⟩] at iV;have bR:=fun ya yc=>rest ya yc D v u rj hO aj hn rfl hv ak;repeat' (first|refine yAE (id:=17) ?_;exact KJ.weak (bR ya yc) xB (xN)|(refine yAb ?_;first|refine xca (bj _ _) fun _=>?_|refine xca (cap _ _) fun y=>?_;obtain ⟨ya,yc⟩:=y|refine xca (bV _ _) fun _=>?_|refine xca cq fun x=>?_;obtain ⟨xa,xc⟩:=x)|refine xqa ?_|refine xsf ?_ ?_|intro _)
  rw [if_neg ak] at hO;rw [show decide (0≤(b.length:Int)∧yBQ b.length≤(yA7 n:Nat)-(u:Nat))=false from zZ (fun h=>by omega)] at iV;by_cases hw:1099511627776≤v
  ·rw [if_pos hw] at hO;subst hO;have nx:=yGw (W:=W) (t:=t) (p:=p) (n:=n) (v:Nat) zO ra r.length rc (zq rj) D.life false;repeat' (first|(refine yAb ?_;first|refine xca (bj _ _) fun _=>?_|refine xca (cap _ _) fun y=>?_;obtain ⟨ya,yc⟩:=y|refine xca (bV _ _) fun _=>?_|refine xca cq fun x=>?_;obtain ⟨xa,xc⟩:=x)|refine yAo ?_;refine yAa (yAn (q:=true) rfl rfl rfl) ?_|refine xqa ?_|refine xsf ?_ ?_|intro _)
   all_goals (exact xdn ((ra,rc),rj))
  rw [if_neg hw] at hO;have fw:=yC7 aj hn h1 zO v zO r ah;have nx:=yI1 (W:=W) (t:=t) (p:=p) (D:=D) (yAO (ra,rc) r) ra rc hRo h1 zO aj hn v zO (zq rj) D.life ah;have jG:=fw.nn;have gC:=fw.life;rcases fw.way with ⟨z0,zs⟩|⟨z0,zo⟩
  ·rw [if_pos z0] at hO;have nx0:=nx.2 z0;rw [gC] at nx0;have bR:=fun ya yc g=>rest ya yc (yCk D n v r) (v+1) 0 g hO zs jG gC zO zO;obtain ⟨D2,aF⟩:∃ D2,D2=yCk D n v r:=⟨_,rfl⟩;rw [← aF] at nx0;simp only [← aF] at bR;repeat' (first|refine yAE (id:=17) ?_;exact KJ.weak (bR ya yc g2) xB (xN)|(refine yAb ?_;first|refine xca nx0 fun g2=>?_|refine xca (bj _ _) fun _=>?_|refine xca (cap _ _) fun y=>?_;obtain ⟨ya,yc⟩:=y|refine xca (bV _ _) fun _=>?_|refine xca cq fun x=>?_;obtain ⟨xa,xc⟩:=x)|refine znf ?_|refine xqa ?_|refine xsf ?_ ?_|intro _)
  ·rw [if_neg zO] at hO;have ku:=nx.1 z0;obtain ⟨D2,aF⟩:∃ D2,D2=yCk D n v r:=⟨_,rfl⟩;rw [← aF] at ku hO;subst hO;repeat' (first|(refine yAb ?_;first|refine xca ku fun _=>?_|refine xca (bj _ _) fun _=>?_|refine xca (cap _ _) fun y=>?_;obtain ⟨ya,yc⟩:=y|refine xca (bV _ _) fun _=>?_|refine xca cq fun x=>?_;obtain ⟨xa,xc⟩:=x)|refine yAo ?_;refine yAa (yAn (q:=true) rfl rfl rfl) ?_|refine xqa ?_|refine xsf ?_ ?_|intro _)
   all_goals refine KJ.noP ?_
   all_goals (exact xdn ((ra,rc),rj))
 intro ya yc D1 w k g hJ bM cN hl1 hw hk;obtain ⟨iy,-⟩:=yJK (D0:=D) bM cN hl1 h1 zO hr bJ ah zO v w k hv hw b hk hJ;have kH:yBi D1 D.life false=false:=by unfold yBi;rw [bM.on,hl1];simp
 obtain ⟨-,life,und,ok,nn,-⟩:=yIt bM cN h1 w k b hk;have dU:=xAI (W:=W) (p:=p) (g:=g) (D:=D1) bM.ok (yAN n:Nat) (yA7 n:Nat) D.life w k b bM.on ⟨zO,zO,zO,zO,zO,zO,zO⟩ kH zO zO zO (by rw [bM.und];simp);have db:((k:Nat):Int)+yBQ b.length=((k+(yBw b).length:Nat):Int):=zO;have bt:=fun h=>yX9 (W:=W) (p:=p) (g:=g) (D:=(yBU (yAN n:Nat) w k (yBw b) 0 D1).2) ok zO (yAN n:Nat) (yA7 n:Nat) (w:Nat) ((k+(yBw b).length:Nat):Int) D.life h;clear hO hJ;rcases iy with ⟨y1,y3,hh⟩|⟨y1,y3,hh⟩|⟨y1,hh⟩
 ·have y2:yBi (yBU (yAN n:Nat) w k (yBw b) 0 D1).2 D.life false=false:=by
   rcases (yIt bM cN h1 w k b hk).way with ⟨-,z,-⟩|⟨-,z,-⟩|⟨z,-⟩
   ·unfold yBi;rw [z,life,hl1];simp
   ·unfold yBi;rw [z,life,hl1];simp
   ·rw [y1] at z;cases z
  have bt:=bt y2;rw [y1] at dU;rw [y3] at bt;simp only [if_true,Bool.not_true,db] at dU;simp only [if_true,ne_eq,not_true,decide_false] at bt;subst hh;obtain ⟨D3,d9⟩:∃ D3,D3=(yBU (yAN n:Nat) w k (yBw b) 0 D1).2:=⟨_,rfl⟩;rw [← d9] at dU bt ⊢;repeat' (first|refine xca bt fun _=>?_|refine yAt ?_;refine yAa (yAe (q:=true) rfl rfl rfl) ?_|refine znf ?_|refine xst ?_|refine xsf ?_ ?_|intro _)
  all_goals (exact xdn ((ya,yc),g))
 ·have y2:yBi (yBU (yAN n:Nat) w k (yBw b) 0 D1).2 D.life false=false:=by
   rcases (yIt bM cN h1 w k b hk).way with ⟨-,z,-⟩|⟨-,z,-⟩|⟨z,-⟩
   ·unfold yBi;rw [z,life,hl1];simp
   ·unfold yBi;rw [z,life,hl1];simp
   ·rw [y1] at z;cases z
  have bt:=bt y2;rw [y1] at dU;rw [y3] at bt;simp only [if_true,Bool.not_true,db] at dU;rw [if_neg (by omega:¬ (12:Nat)=0),show decide ((12:Nat)≠0)=true from rfl] at bt;subst hh;obtain ⟨D3,d9⟩:∃ D3,D3=(yBU (yAN n:Nat) w k (yBw b) 0 D1).2:=⟨_,rfl⟩;rw [← d9] at dU bt ⊢;repeat' (first|refine xca bt fun _=>?_|refine yAt ?_;refine yAa (yAe (q:=true) rfl rfl rfl) ?_|refine yAo ?_;refine yAa (yAn (q:=true) rfl rfl rfl) ?_|refine xst ?_|refine xsf ?_ ?_|intro _)
  all_goals refine KJ.noP ?_
  all_goals (exact xdn ((ra,rc),g))
 ·rw [y1] at dU;rw [if_neg (by simp:¬ (false=true)),if_neg (by simp:¬ (false=true))] at dU;subst hh;obtain ⟨D3,d9⟩:∃ D3,D3=(yBU (yAN n:Nat) w k (yBw b) 0 D1).2:=⟨_,rfl⟩;rw [← d9] at dU ⊢;repeat' (first|refine yAt ?_;refine yAa (yAe (q:=false) rfl rfl rfl) ?_|refine yAo ?_;refine yAa (yAn (q:=true) rfl rfl rfl) ?_|refine xst ?_|refine xsf ?_ ?_|intro _)
  all_goals refine KJ.noP ?_
  all_goals (exact xdn ((ra,rc),g))
end
def yLl (key hi:zB) (m:Nat):List BOp:=(List.range m).map fun i=>⟨false,key++[UInt8.ofNat ((48+i) % 256)],hi⟩
theorem yTc (key hi:zB) (m:Nat):yLl key hi (m+1)=yLl key hi m++[⟨false,key++[UInt8.ofNat ((48+m) % 256)],hi⟩]:=by unfold yLl;rw [List.range_succ,List.map_append];rfl
theorem yLm (key hi:zB) (m:Nat):(yLl key hi m).length=m:=by unfold yLl;simp
def yTd (n:Int):Nat:=1+(IntKind.u64.wrap n % 40).toNat
def yFU (o:SOp):List BOp:=yLl o.key o.hi (yTd o.n)
theorem yRy (n:Int):1≤yTd n∧yTd n≤40:=by unfold yTd;omega
theorem yYg {o:SOp} (hk:o.key.length+1≤1048576) (hh:o.hi.length≤1048576):OpsFit (yFU o):=by have h:=yRy o.n;refine ⟨by unfold yFU;rw [yLm];omega,fun x hx=>?_⟩;unfold yFU yLl at hx;obtain ⟨i,-,rfl⟩:=List.mem_map.1 hx;exact ⟨by show (o.key++[_]).length≤_;rw [zLa];exact hk,hh⟩
section
variable {W:World} {F:Nat→Addr} {d p n:Nat} {D:Dsk}
instance xCm:FnIs prog 31:=⟨zK⟩
theorem yWk (hE:ErrsOn L16 W F) (h1:64≤n) (hn:D.n=n) (ho:D.off=true) :CtU prog W 13 [zPp d] [DiskP d D] (.tuple #[.pointer none,yAy F 12]) [DiskP d D]:=by
 have dV:W.cell? ⟨2,0,none⟩=some (yAy F 12):=hE.at_ 12 zX;obtain ⟨ea,bT⟩:=yDf (E:=F) (show (12:Nat)≠0 by omega);rw [bT] at dV ⊢;have bj:CtU prog W 45 [zPp d] [DiskP d D] (zi (n:Nat)) [DiskP d D]:=by have:=yBM (W:=W) (p:=d) (D:=D);rw [hn] at this;exact this
 have gV:CtU prog W 46 [zPp d] [DiskP d D] (.bool true) [DiskP d D]:=by rw [← ho];exact yDy
 have q1:decide ((n:Int)<64)=false:=zZ zO;refine zE func13 ntmps13 fun R=>?_;repeat' (first|(refine yAw ?_;first|refine yAv (d:=3) rfl (fun ge=>?_)|refine yAv (d:=2) rfl (fun gs=>?_))|refine xqa ?_|refine xsf ?_ ?_|refine xdt [(2,yZg),(4,yZg),(9,xCj)] ?_|apply zN|intro _)
 all_goals (refine yCu ?_;exact yA5 zor rfl (Rvs.cell rfl inferInstance xS rfl (Rvs.cell rfl inferInstance xS rfl Rvs.nil)) () (by rfl) (xN))
theorem yQf (B:SP) (hE:ErrsOn L16 W F) (h1:64≤n) (hn:D.n=n) (ho:D.off=true) (oa:Option Addr) (ol oc:Nat) :CtU prog W 14 [zPp d,.slice oa ol oc] [B,DiskP d D] (yAy F 12) [B,DiskP d D]:=by
 have dV:W.cell? ⟨2,0,none⟩=some (yAy F 12):=hE.at_ 12 zX;have bj:CtU prog W 45 [zPp d] [DiskP d D] (zi (n:Nat)) [DiskP d D]:=by have:=yBM (W:=W) (p:=d) (D:=D);rw [hn] at this;exact this
 have gV:CtU prog W 46 [zPp d] [DiskP d D] (.bool true) [DiskP d D]:=by rw [← ho];exact yDy
 have q1:decide ((n:Int)<64)=false:=zZ zO;refine zE func14 ntmps14 fun R=>?_;repeat' (first|refine xqa ?_|refine xsf ?_ ?_|exact xdn ()|intro _)
theorem yQg (h1:64≤n) (h2:n≤65536) (hn:D.n=n) (ho:D.off=true) :CtU prog W 69 [zPp p] [yA1 p D] (.tuple #[.pointer none,zi 12]) [yA1 p D]:=by
 have eP:=yGV (W:=W) h1 h2;refine zE func69 ntmps69 fun R=>?_;refine KJ.unpack_at (F:=yCE p D) xS (fun x=>?_);obtain ⟨sv,wv⟩:=x;rw [yAZ,hn,ho];refine KJ.row_slice xS (fun sa sc e=>?_);subst e;repeat' (first|refine zal fun g4=>?_|refine znf ?_|refine xst ?_|refine xsf ?_ ?_|refine xdr 9 xCk ?_|apply zN|intro _)
 refine KJ.pack (tag:=21) (key:=p) (F:=yCE p D) (.slice sa n sc,wv) (by rw [yAZ,hn,ho];exact xP) ?_
 (exact xdn ())
theorem yNs (B:SP) (h1:64≤n) (h2:n≤65536) (hn:D.n=n) (ho:D.off=true) (ob:Option Addr) (ol oc:Nat) :CtU prog W 24 [zPp p,.slice ob ol oc] [B,yA1 p D] (zi 12) [B,yA1 p D]:=by
 have eP:=yGV (W:=W) h1 h2;refine zE func24 ntmps24 fun R=>?_;refine KJ.unpack_at (F:=yCE p D) xS (fun x=>?_);obtain ⟨sv,wv⟩:=x;rw [yAZ,hn,ho];refine KJ.row_slice xS (fun sa sc e=>?_);subst e;repeat' (first|refine zal fun g4=>?_|refine znf ?_|refine xst ?_|refine xsf ?_ ?_|refine xdr 10 xCl ?_|apply zN|intro _)
 refine KJ.pack (tag:=21) (key:=p) (F:=yCE p D) (.slice sa n sc,wv) (by rw [yAZ,hn,ho];exact xP) ?_
 (exact xdn ())
theorem yWl (o:SOp) (hk:o.key.length+1≤1048576) :Ct prog W 31 [.agg (yEW o).toArray] [] (fun x:Option Addr × Nat=>.slice x.1 (yFU o).length x.2) (fun x=>[yJt x (yFU o)]):=by
 unfold yFU;obtain ⟨B1,hB1⟩:∃ B,IntKind.u64.wrap o.n=B:=⟨_,rfl⟩;have bU:0≤B1∧B1<18446744073709551616:=by have e:IntKind.u64.wrap o.n=o.n % 18446744073709551616:=rfl;omega
 obtain ⟨m,hm⟩:∃ k:Nat,B1 % 40=(k:Int):=⟨(B1 % 40).toNat,zO⟩;have hm39:m≤39:=zO;have hwm:IntKind.i64.wrap ((m:Nat):Int)=((m:Nat):Int):=by rw [IntKind.wrap_i64];omega
 have hN:yTd o.n=m+1:=by unfold yTd;rw [hB1,hm];omega
 rw [hN];clear hN;refine zE func31 ntmps31 fun R=>?_;repeat' (first|refine zbx fun gx=>?_|refine xst ?_|refine xsf ?_ ?_|intro _)
 refine KJ.nilrow 58 3 ?_
 refine yAC (fun x:{x:Nat × Option Addr × Nat//x.1≤m+1}=>[(1,zPp gx),(3,.slice x.1.2.1 (yLl o.key o.hi x.1.1).length x.1.2.2),(4,zi (x.1.1:Nat))])
  (fun x=>[yAj gx (yEW o) 43,yJt x.1.2 (yLl o.key o.hi x.1.1)]++R) (fun x=>m+1-x.1.1) ⟨(0,none,0),zLA _⟩ xB (xN) (fun ⟨(i,xa,xc),hi⟩=>?_)
 dsimp only at hi ⊢;have gd:=yLm o.key o.hi i;by_cases hlt:i<m+1
 ·have ql:decide ((i:Int)<((m+1:Nat):Int))=true:=zY zO;have hby:=yKh (48+i);have ax:=yTc o.key o.hi i;obtain ⟨cc,iP⟩:∃ c,c=UInt8.ofNat ((48+i) % 256):=⟨_,rfl⟩;rw [← iP] at hby ax;have m1:((yLl o.key o.hi i).length+1)*40≤140737488355328:=zO;have m2:(yLl o.key o.hi i).length+1≤9223372036854775807:=zO;repeat' (first|refine yAQ ?_;refine yBm (a:=(⟨false,o.key++[cc],o.hi⟩:BOp)) yAY rfl rfl rfl xS xS m1 m2 rfl (fun g' c'=>?_);rw [← ax]|(refine yAD ?_;first|refine yAK rfl xF (by rfl) zO rfl (fun gb=>?_);show KJ W _ _ _ (yAj gb (opC ⟨false,o.key++[cc],o.hi⟩) 58::_)|refine yAK rfl xF (by rfl) zO rfl (fun gb=>?_);show KJ W _ _ _ (yAj gb (bvs [cc]) 5::_))|refine yAu ?_;refine yAa (yCP (l:=[cc]) rfl xS rfl) ?_|refine yAr ?_;refine yAa (yFx rfl rfl) ?_|refine zad (i+1) ?_|refine zad (48+i) ?_|refine zad (m+1) ?_|refine xqa ?_|refine xsf ?_ ?_|intro _)
  all_goals refine yAs ⟨(i+1,some ⟨g',0,none⟩,c'),hlt⟩ (by show m+1-(i+1)<m+1-i;omega) xB (xN)
 have ql:decide ((i:Int)<((m+1:Nat):Int))=false:=zZ zO;obtain rfl:i=m+1:=zO;repeat' (first|refine zad (m+1) ?_|refine xqa ?_|refine xsf ?_ ?_|intro _)
 all_goals (exact xdn (xa,xc))
end
end Go.Proofs.YtoipmnikdiogcaaGreatDoor
