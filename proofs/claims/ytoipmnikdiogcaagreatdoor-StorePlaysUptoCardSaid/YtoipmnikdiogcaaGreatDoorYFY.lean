/-
  StWL, StV1, Crq, Ref7p, Ref7.
-/
import Derived.Test.YtoipmnikdiogcaaGreatDoorYFT
set_option maxRecDepth 100000
set_option maxHeartbeats 64000000
namespace Go.Proofs.YtoipmnikdiogcaaGreatDoor
open Go Go.RowKit
open Go.Proofs.Tryz
abbrev yVq:Pl:=(po [0,1,2,3,4,8] (.ef 5 [8,0] (.op 6 (.op 7 (.ef 9 [] .nil)))))
abbrev yVr:Pl:=(po [0,1,2,3,4,5,6,7,8,9,10,11,12,13,14,15,16,17,18,19] (.ef 20 [] (po [21,22,23,24,25] .nil)))
abbrev yVs:Pl:=(po [0,1,2,3,4,5,6,7,8,9,10,11,12,13,14] (.ef 15 [] (po [16,17,18,19,20] .nil)))
abbrev yVt:Pl:=(po [0,1,2,3,5,8] (.ef 4 [8,5] (.ef 6 [8] (.op 7 (.ef 9 [] .nil)))))
abbrev zTFY0:List (Nat×Pl):=[(8,yVq),(9,yVr),(12,yVs),(21,yVt)]
def lgR (r:Rows) (ab:List zB) (i:Nat):Rows:=(ab.take i).foldl (fun r x=>yAP r (yAV x).1) r
theorem yCH (r:Rows) {ab:List zB} {i:Nat} {x:zB} (h:ab[i]? = some x):lgR r ab (i+1)=yAP (lgR r ab i) (yAV x).1:=by unfold lgR;rw [List.take_add_one,h,List.foldl_append];rfl
def lrcC (s:zB):List Value:=[strV s]
theorem yDu:EncOk lrcC 1:=⟨fun _=>rfl,fun x=>by unfold lrcC;exact xO,zO⟩
theorem yE9 (l:List zB):l.map strV=l.flatMap lrcC:=by
 induction l with
 |nil=>rfl
 |cons a l ih=>rw [zLr,← ih];rfl
section
variable {W:World} {F:Nat→Addr} {q s d n g:Nat} {D:Dsk} {r:Rows}
theorem yOw (hE:ErrsOn L16 W F) (ay:ErrsOn L8 W F) (hN:NibAt W) (h1:64≤n) (h2:n≤65536) (hr:RisR r) (bH:(yAk r).length≤234*yAA n) (v:Nat) (hv:1≤v∧v≤1099511627776) (life:Int) (fQ:D.n=n) (ho:D.off=false) (hG:yBA D 0=0∧yB6 D 0=v∧yBT D 0=yBJ n (yAk r).length∧yCd D (yAG n v) (yAA n) v (yAk r).length=(yAk r,0)) (ab:List zB) (g5:yHb D (yAN n:Nat) (yA7 n:Nat) v ((((yA7 n:Nat):Int).toNat)+1) 0 []=ab) (di:∀ x ∈ ab,(yAV x).2=0∧x.length≤4398046511104) (aO:∀ i x,ab[i]? = some x→(lgR r ab i).length+(yAV x).1.length≤144115188075855872) (fM:ab.length≤4611686018427387904) (jf:(yAk (lgR r ab ab.length)).length≤234*yAA n) :Ct prog W 50 [zPp s] [stP s d q n 0 none life false,DiskP d D] (fun _:Nat × TbQ [] (lgR r ab ab.length)=>.tuple #[]) (fun x=>[stP s d x.1 n (v:Nat) none life false,DiskP d D,tbP x.1 x.2.1.2.1 x.2.1.2.2,arP x.2.1.1]):=by
 have e1:W.cell? ⟨9,0,none⟩=some (yAy F 1):=hE.at_ 1 zX;have e2:W.cell? ⟨10,0,none⟩=some (yAy F 2):=hE.at_ 2 zX;have e3:W.cell? ⟨11,0,none⟩=some (yAy F 3):=hE.at_ 3 zX;have e5:W.cell? ⟨13,0,none⟩=some (yAy F 5):=hE.at_ 5 zX;have dz:W.cell? ⟨6,0,none⟩=some (yAy F 15):=hE.at_ 15 zX;obtain ⟨f1,f2,f3,f4⟩:=yBf h1 v;have hA:=yBr (n:=n) zO;obtain ⟨g1,g2,g3,g4⟩:=hG;obtain ⟨L,hL⟩:∃ L,L=(yAk r).length:=⟨_,rfl⟩;rw [← hL] at g3 g4 bH;have kA:(yAk r).length≤234*yAA n:=zO;have du:=(yDV r zO).2;have hLp:=yCG L;have hLl:=yCe L;have jN:=yCG n;have jR:=yCe n;obtain ⟨hd,aM⟩:∃ hd,hd=yBJ n L:=⟨_,rfl⟩;have ju:hd.length=(vu n).length+(vu L).length:=by rw [aM];unfold yBJ;rw [zLa]
 have bp:ru (hd.drop 0)=.ok n (vu L):=by rw [zLo,aM];exact yFz n zO (vu L)
 have bn:ru (hd.drop (vu n).length)=.ok L []:=by
  rw [aM];unfold yBJ;rw [List.drop_left];have:=yFz L zO []
  rwa [zLs] at this
 have cr:CtU prog W 52 [zPp d,zi 0] [DiskP d D] (.tuple #[strV hd,zi (v:Nat),.nilIface]) [DiskP d D]:=by have:=yC9 (W:=W) (p:=d) (D:=D) ay hN zO 0;rw [g1,g2,g3,← aM] at this;exact this
 have bC:=yDK (W:=W) hd;have cu:∀ g,CtU prog W 91 [zPp g] [rdP g hd 0] (.tuple #[.int .u64 (n:Nat),.nilIface]) [rdP g hd (vu n).length]:=fun g=>by have:=yEa (W:=W) (F:=F) (p:=g) (s:=hd) (a:=0) zO zO e1 e2 (.ok n (vu L)) bp;rw [zLq] at this;exact this
 have cup:∀ g,CtU prog W 93 [zPp g,zi (234*yAA n:Nat)] [rdP g hd (vu n).length] (.tuple #[zi (L:Nat),.nilIface]) [rdP g hd ((vu n).length+(vu L).length)]:=fun g=>by have:=yDM (W:=W) (F:=F) (p:=g) (s:=hd) (a:=(vu n).length) (234*yAA n) zO zO zO e1 e2 e3 (.ok L []) bn;have u1:yOU (234*yAA n) (.ok L [])=L:=(if_neg zO:(if 234*yAA n<L then 0 else L)=L);have u2:yHx (234*yAA n) (.ok L [])=0:=(if_neg zO:(if 234*yAA n<L then 3 else 0)=0);have u3:yOV (234*yAA n) (.ok L [])=(vu L).length:=(if_neg zO:(if 234*yAA n<L then 0 else (vu L).length)=(vu L).length);rw [u1,u2,u3] at this;exact this
 have cd:∀ g,CtU prog W 94 [zPp g] [rdP g hd ((vu n).length+(vu L).length)] .nilIface [rdP g hd ((vu n).length+(vu L).length)]:=fun g=>by have:=yDL (W:=W) (F:=F) (p:=g) (s:=hd) (a:=(vu n).length+(vu L).length) zO zO e5;rw [if_neg zO] at this;exact this
 have cm:=yGl (W:=W);have cc:=yCY (W:=W) hE;have jM:=yC5 (W:=W) (yAy F 15);have bL:=fun q v=>yCw (W:=W) (s:=s) (d:=d) (q:=q) (n:=n) v none life false zO;have bj:CtU prog W 45 [zPp d] [DiskP d D] (zi (n:Nat)) [DiskP d D]:=by have:=yBM (W:=W) (p:=d) (D:=D);rw [fQ] at this;exact this
 have dX:CtU prog W 96 [zPp d,zi (yAG n v:Nat),zi (yAA n:Nat),.int .u64 (v:Nat),zi (L:Nat)] [DiskP d D] (.tuple #[strV (yAk r),.nilIface]) [DiskP d D]:=by have:=yGD (W:=W) (p:=d) (D:=D) ay dz hN zO (yAG n v:Nat) (yAA n:Nat) (v:Nat) (L:Nat);rw [g4] at this;exact this
 have dZ:=yGR (W:=W) (F:=F) hE hr zO zO;have fW:Ct prog W 98 [zPp d,zi (yAN n:Nat),zi (yA7 n:Nat),zi (v:Nat)] [DiskP d D] (fun x:Option Addr × Nat=>.tuple #[.slice x.1 ab.length x.2,.nilIface]) (fun x=>[DiskP d D,lsP lrcC 9 1 (.slice x.1 ab.length x.2) ab]):=by have h:=yHU (W:=W) (p:=d) (D:=D) ay hN (yAN n:Nat) (yA7 n:Nat) v zO ho ⟨zO,zO,zO,zO,zO,zO,zO⟩;rw [g5,yE9] at h;exact Ct.rowSl h
 have iw:=fun (q:Nat) (N:List Nd) (a:Option Addr) (b:Int) (hT:TbOk N a (lgR r ab ab.length))=>yEM (W:=W) (p:=q) (b:=b) hT zO;clear g1 g2 g3 g4 g5 bp bn aM;have w1:IntKind.u64.wrap ((n:Nat):Int)=((n:Nat):Int):=yAx _ zO;have w2:IntKind.u64.wrap ((v:Nat):Int)=((v:Nat):Int):=yAx _ zO;obtain ⟨m,hm⟩:∃ m:Nat,((v:Nat):Int) % 2=(m:Nat):=⟨v % 2,zO⟩;have dy:m<2:=zO;have hx:∀ z,(stC d z n 0 none life false)[0+1+0+((m:Nat):Int).toNat*1]? = some (zi (yAG n v:Nat)):=fun z=>by
  unfold yAG;rcases (show m=0∨m=1 by omega) with rfl|rfl
  ·rw [if_pos zO];rfl
  ·rw [if_neg zO];rfl
 have qe:decide (((n:Nat):Int)=((n:Nat):Int))=true:=zY rfl;have qs:decide (((yAk (lgR r ab ab.length)).length:Nat)≤((234*yAA n:Nat):Int))=true:=zY zO;refine zE func50 ntmps50 fun R=>?_;repeat' (first|(refine yAb ?_;first|refine xca fW fun x=>?_;obtain ⟨xa,xc⟩:=x|refine xca dZ fun y=>?_;obtain ⟨q',⟨⟨N,a,b⟩,gN,hT⟩⟩:=y;dsimp only at gN hT ⊢|refine xca (cd _) fun _=>?_|refine xca (cup _) fun _=>?_|refine xca (bL _ _) fun _=>?_|refine xca (cu _) fun _=>?_|refine xca bC fun g=>?_)|refine yAi ?_;refine yAa (yDC rfl xS (hx _)) ?_|refine xqa ?_|refine xsf ?_ ?_|refine xdt zTFY0 ?_|apply zN|intro _)
 have hL:Lv W lrcC 1 (lsP lrcC 9 1 (.slice xa ab.length xc) ab) xa ab:=Lv.own yDu rfl
 refine yAC (fun x:{x:Nat × List Nd × Option Addr × Int//x.1≤ab.length∧TbOk x.2.1 x.2.2.1 (lgR r ab x.1)}=>[(0,zPp s),(3,zi (v:Nat)),(108,.slice xa ab.length xc),(109,zi (ab.length:Nat)),(110,zi (x.1.1:Nat))])
  (fun x=>[stP s d q' n 0 none life false,DiskP d D,tbP q' x.1.2.2.1 x.1.2.2.2,arP x.1.2.1,lsP lrcC 9 1 (.slice xa ab.length xc) ab]++R) (fun x=>ab.length-x.1.1) ⟨(0,N,a,b),zLA _,hT⟩ xB (xN) (fun ⟨(i,N2,a2,b2),hi,be⟩=>?_)
 dsimp only at hi be ⊢;by_cases hlt:i<ab.length
 ·have ql:decide ((i:Int)<(ab.length:Nat))=true:=zY zO;obtain ⟨x,aZ⟩:∃ s,ab[i]? = some s:=⟨_,zLb hlt⟩;refine KJ.lvSome hL xS zO (fun b0 of aJ=>?_);subst aJ;have ae:of+Int.toNat (i:Int)*1=of+i*1+0:=zW;have aR:(lrcC x)[0]? = some (strV x):=rfl;have fL:=di x (zLk aZ);have bO:=yGU (W:=W) (F:=F) x fL.2 hE;rw [fL.1] at bO;have ax:=yCH r aZ;have bP:=fun ya yc=>yC4 (W:=W) (p:=q') (tb:=b2) be _ ya yc (yAV x).1 (Lv.own (e:=58) (c:=yc) yAY rfl) (aO i x aZ);rw [← ax] at bP;have dc:yAy F 0=.nilIface:=rfl;rw [dc] at bO;obtain ⟨os,cQ⟩:∃ os,os=(yAV x).1:=⟨_,rfl⟩;rw [← cQ] at bO bP;repeat' (first|refine xca (bP _ _) fun y=>?_;obtain ⟨⟨N3,a3,b3⟩,g3,t3⟩:=y;dsimp only at g3 t3 ⊢|refine xca bO fun y=>?_;obtain ⟨ya,yc⟩:=y|refine yAi ?_;refine yAa (yA0 yDu hL rfl rfl xS ae aZ aR) ?_|refine zad (i+1) ?_|refine xqa ?_|refine xsf ?_ ?_|refine xdt zTFY0 ?_|apply zN|intro _)
  all_goals refine yAs ⟨(i+1,N3,a3,b3),hlt,t3⟩ (by show ab.length-(i+1)<ab.length-i;omega) xB (xN)
 have ql:decide ((i:Int)<(ab.length:Nat))=false:=zZ zO;obtain rfl:i=ab.length:=zO;repeat' (first|refine xca (bL _ _) fun _=>?_|refine xca (iw _ _ _ _ be) fun _=>?_|refine xqa ?_|refine xsf ?_ ?_|refine xdt zTFY0 ?_|apply zN|intro _)
 all_goals (exact xdn (q',⟨(N2,a2,b2),(fun y h=>nomatch h),be⟩))
end
def yTn (n room:Nat) (s:zB):Option Nat:=match ru s with
 |.bad _=>none
 |.ok m t=>match ru t with
  |.bad _=>none
  |.ok k u=>if k≤room∧u=[]∧m=n then some k else none
theorem yVu {n room k:Nat} {s:zB} (h:yTn n room s=some k):s=yBJ n k∧k≤room:=by
 unfold yTn at h;split at h
 ·cases h
 ·rename_i m t h1;split at h
  ·cases h
  ·rename_i k' u h2;split at h
   ·rename_i hc;obtain ⟨c1,c2,c3⟩:=hc;cases h;subst c2;subst c3;have e1:=(yHV h1).1;have e2:=(yHV h2).1;rw [zLs] at e2;refine ⟨?_,c1⟩;unfold yBJ;rw [e1,e2]
   ·cases h
def yOx (most:Nat):Nat→Bool→zB→zB→Option Rows
 |0,_,_,l=>if l=[] then some [] else none
 |k+1,fst,last,l=>match rtx most l with
  |.bad _=>none
  |.ok key t=>match rtx most t with
   |.bad _=>none
   |.ok v u=>if fst=true∨Op.bytesLess last key=true then (match yOx most k false key u with|none=>none|some r=>some ((key,v)::r)) else none
theorem xAr {most:Nat}:∀ (k:Nat) (fst:Bool) (last l:zB) (r:Rows),yOx most k fst last l=some r→l=r.flatMap rowB∧r.length=k∧RisR r∧(fst=false→∀ p ∈ r,Op.bytesLess last p.1=true):=by
 intro k
 induction k with
 |zero=>
  intro fst last l r h;unfold yOx at h;split at h
  ·rename_i h0;cases h;exact ⟨by rw [h0];rfl,rfl,List.Pairwise.nil,fun _ p hp=>(by cases hp)⟩
  ·cases h
 |succ k ih=>
  intro fst last l r h;unfold yOx at h;split at h
  ·cases h
  ·rename_i key t h1;split at h
   ·cases h
   ·rename_i v u h2;split at h
    ·rename_i hc;split at h
     ·cases h
     ·rename_i r' h3;cases h;obtain ⟨a1,a2,a3,a4⟩:=ih _ _ _ _ h3;refine ⟨?_,by rw [zLj,a2],List.pairwise_cons.2 ⟨fun p hp=>a4 rfl p hp,a3⟩,fun hf p hp=>?_⟩
      ·rw [(yLK h1).1,(yLK h2).1,a1,zLr];unfold rowB;rw [zLd]
      ·have hl:Op.bytesLess last key=true:=hc.resolve_left (by rw [hf];simp);rcases zLm.1 hp with rfl|q
       ·exact hl
       ·exact yG1 hl (a4 rfl p q)
    ·cases h
def yG2 (s:zB):Option Rows:=match ru s with
 |.bad _=>none
 |.ok n t=>if n≤s.length then yOx s.length n true [] t else none
theorem yRi {s:zB} {r:Rows} (h:yG2 s=some r):s=yAk r∧RisR r:=by
 unfold yG2 at h;split at h
 ·cases h
 ·rename_i n t h1;split at h
  ·obtain ⟨a1,a2,a3,-⟩:=xAr _ _ _ _ _ h;refine ⟨?_,a3⟩;rw [(yHV h1).1,a1];unfold yAk;rw [a2]
  ·cases h
theorem yKX {aa:Int} {raw p:zB} (h:yCq aa raw=some p):p.length≤234:=by
 unfold yCq at h;split at h
 ·cases h
 split at h
 ·cases h
 rename_i hl;split at h
 ·cases h
 rename_i h2;split at h
 ·cases h;rw [yEF raw zO zO];omega
 ·cases h
theorem yRj {D:Dsk} {at_ n:Int} {ver i:Nat} {p:zB} (h:yDT D at_ n ver i=some p):p.length≤234:=by
 unfold yDT at h;split at h
 ·cases h
 split at h
 ·cases h
 exact yKX h
theorem yVv {D:Dsk} {at_ n:Int} {ver i:Nat} {size:Int}:∀ (f k:Nat) (out s:zB),yFy D at_ n ver i size f k out=some s→s.length≤out.length+233*f:=by
 intro f
 induction f with
 |zero=>intro k out s h;unfold yFy at h;cases h;omega
 |succ f ih=>
  intro k out s h;unfold yFy at h;split at h
  ·cases h
  ·rename_i q hq;have hl:=yRj hq;split at h
   ·cases h
   split at h
   ·cases h
   ·have:=ih _ _ _ h;rw [zLa,zLf] at this;omega
theorem yXM {D:Dsk} {at_ n:Int} {ver i:Nat} {s:zB} {u:Int} (h:yFV D at_ n ver i=some (s,u)):(s.length:Int)≤233*u:=by
 have hu:=yGa h;unfold yFV at h;split at h
 ·cases h
 split at h
 ·cases h
 split at h
 ·cases h
 split at h
 ·cases h
 split at h
 ·cases h
 split at h
 ·cases h
 rename_i q hq h5 h6 h1 h2 x s' gG;simp only [Option.some.injEq,Prod.mk.injEq] at h;obtain ⟨rfl,e⟩:=h;have hl:=yRj hq;have h3:=yVv _ _ _ _ gG;rw [zLf] at h3;rw [e] at h3;omega
theorem yIi {D:Dsk} {at_ n:Int} {ver:Nat}:∀ (f i:Nat) (an:List zB) (c:Nat),(∀ x ∈ an,(x.length:Int)≤233*n)→an.length≤c→(∀ x ∈ yHb D at_ n ver f i an,(x.length:Int)≤233*n)∧(yHb D at_ n ver f i an).length≤c+f:=by
 intro f
 induction f with
 |zero=>intro i an c h hc;exact ⟨h,by unfold yHb;omega⟩
 |succ f ih=>
  intro i an c h hc;unfold yHb;split
  ·exact ⟨h,zO⟩
  ·rename_i s u hs;have h1:=yXM hs;have h2:=yGa hs;have:=ih (i+u.toNat) (an++[s]) (c+1) (fun x hx=>by
    rcases List.mem_append.1 hx with q|q
    ·exact h x q
    ·rw [List.mem_singleton] at q;subst q;omega) (by rw [zLa,List.length_singleton];omega)
   exact ⟨this.1,zO⟩
theorem ySJ (raw:zB) (k:Int):(yCZ raw k).length≤234:=by
 unfold yCZ yDh;split
 ·simp
 split
 ·simp
 split
 ·simp
 split
 ·simp
 split
 ·simp
 ·cases h:yCq (yDX raw 8) raw with
  |none=>simp
  |some p=>
   have:=yKX h;simpa using this
theorem yP6 (D:Dsk) (a:Nat):∀ k,(yBX D a k).length≤234:=by
 intro k
 induction k with
 |zero=>simp [yBX]
 |succ k ih=>
  unfold yBX;split
  ·exact ySJ _ _
  ·exact ih
theorem yOy (D:Dsk) (a:Int):(yBT D a).length≤234:=by
 unfold yBT;split
 ·exact yP6 _ _ _
 ·simp
theorem ySK (ops:List BOp):2*ops.length≤(yEt ops).length:=by
 induction ops with
 |nil=>simp [yEt]
 |cons o l ih=>
  have e:yEt (o::l)=yD7 o++yEt l:=by unfold yEt;rw [zLr]
  have:=yKy o;rw [e,zLa,zLj];omega
theorem yDY (s:zB):2*(yAV s).1.length≤s.length:=by
 rcases yJi s with ⟨_,h⟩|⟨n,t,os,h1,h2,h3⟩
 ·rw [h];simp
 ·rw [h3];have e1:=congrArg List.length (yHV h1).1;have e2:=congrArg List.length (yIO n h2).1;have:=ySK os;simp only [zLa] at e1 e2;dsimp only;omega
theorem xAs (s:zB):(yAV s).2≤7:=by
 unfold yAV;cases h:ru s with
 |bad e=>dsimp only;rcases yDB h with h|h <;> omega
 |ok n t=>
  dsimp only;cases h2:yDU n true [] t with
  |ok os u=>dsimp only;split <;> simp
  |bad e=>
   dsimp only;have key:∀ (n:Nat) (f:Bool) (last l:zB) (e:Nat),yDU n f last l=.bad e→e≤7:=fun n=>by
    induction n with
    |zero=>intro f last l e h;cases h
    |succ n ih=>
     intro f last l e h;unfold yDU at h;cases h1:yIv f last l with
     |bad e'=>rw [h1] at h;cases h;have:=yM2 h1;omega
     |ok o u=>
      rw [h1] at h;dsimp only at h;cases h3:yDU n false o.key u with
      |bad e'=>rw [h3] at h;cases h;exact ih _ _ _ _ h3
      |ok os w=>rw [h3] at h;cases h
   exact key n true [] t e h2
structure LiesO (n:Nat) (D:Dsk) (r0:Rows) (ab:List zB) (v:Nat) (r:Rows):Prop where
 e:yBA D 0=0
 nv:yB6 D 0=v
 v1:1≤v∧v≤1099511627776
 s:yBT D 0=yBJ n (yAk r0).length
 area:yCd D (yAG n v) (yAA n) v (yAk r0).length=(yAk r0,0)
 ris0:RisR r0
 room0:(yAk r0).length≤234*yAA n
 rp:yHb D (yAN n:Nat) (yA7 n:Nat) v (((yA7 n:Nat):Int).toNat+1) 0 []=ab
 dec:∀ x ∈ ab,(yAV x).2=0
 is_:lgR r0 ab ab.length=r
 room:(yAk r).length≤234*yAA n
inductive Bad (n:Nat) (D:Dsk):Nat→Prop
 |slot (e:Nat) (h:yBA D 0=e) (ao:e≠0):Bad n D e
 |hdr (h:yBA D 0=0) (hh:yTn n (234*yAA n) (yBT D 0)=none):Bad n D 15
 |area (v k:Nat) (h:yBA D 0=0) (hv:yB6 D 0=v) (v1:1≤v∧v≤1099511627776) (hh:yBT D 0=yBJ n k) (hk:k≤234*yAA n) (ha:yCd D (yAG n v) (yAA n) v k=([],15)):Bad n D 15
 |rows (v k:Nat) (s:zB) (h:yBA D 0=0) (hv:yB6 D 0=v) (v1:1≤v∧v≤1099511627776) (hh:yBT D 0=yBJ n k) (hk:k≤234*yAA n) (ha:yCd D (yAG n v) (yAA n) v k=(s,0)) (hs:s.length≤234*yAA n) (hr:yG2 s=none):Bad n D 15
 |bat (v:Nat) (r0:Rows) (ab:List zB) (i:Nat) (h:yBA D 0=0) (hv:yB6 D 0=v) (v1:1≤v∧v≤1099511627776) (hh:yBT D 0=yBJ n (yAk r0).length) (hk:(yAk r0).length≤234*yAA n) (ha:yCd D (yAG n v) (yAA n) v (yAk r0).length=(yAk r0,0)) (hr:RisR r0) (rp:yHb D (yAN n:Nat) (yA7 n:Nat) v (((yA7 n:Nat):Int).toNat+1) 0 []=ab) (hi:i<ab.length) (hb:∀ x,ab[i]? = some x→(yAV x).2≠0) (hg:∀ j x,j<i→ab[j]? = some x→(yAV x).2=0):Bad n D 15
 |room (v:Nat) (r0:Rows) (ab:List zB) (h:yBA D 0=0) (hv:yB6 D 0=v) (v1:1≤v∧v≤1099511627776) (hh:yBT D 0=yBJ n (yAk r0).length) (hk:(yAk r0).length≤234*yAA n) (ha:yCd D (yAG n v) (yAA n) v (yAk r0).length=(yAk r0,0)) (hr:RisR r0) (rp:yHb D (yAN n:Nat) (yA7 n:Nat) v (((yA7 n:Nat):Int).toNat+1) 0 []=ab) (hd:∀ x ∈ ab,(yAV x).2=0) (hb:234*yAA n<(yAk (lgR r0 ab ab.length)).length):Bad n D 15
theorem yVw (ab:List zB):(∀ x ∈ ab,(yAV x).2=0)∨∃ i,i<ab.length∧(∀ x,ab[i]? = some x→(yAV x).2≠0)∧∀ j x,j<i→ab[j]? = some x→(yAV x).2=0:=by
 induction ab with
 |nil=>exact .inl fun x hx=>by cases hx
 |cons y l ih=>
  by_cases hy:(yAV y).2=0
  ·rcases ih with h|⟨i,h1,h2,h3⟩
   ·left;intro x hx;rcases zLm.1 hx with rfl|q
    ·exact hy
    ·exact h x q
   ·right;refine ⟨i+1,by rw [zLj];omega,fun x hx=>h2 x (by simpa using hx),fun j x hj hx=>?_⟩;cases j with
    |zero=>simp at hx;subst hx;exact hy
    |succ j=>exact h3 j x zO (by simpa using hx)
  ·exact .inr ⟨0,by simp,fun x hx=>by simp at hx;subst hx;exact hy,fun j x hj _=>by omega⟩
theorem ySL {D:Dsk} (ig:D.off=false) (a s b:Int) (m:Nat) (ha:0≤a) (hm:a+m≤D.n):∀ (f i:Nat) (an:zB),i+f≤m→(an.length:Int)=min b (234*(i:Int))→yMO D a s b f i an=([],15)∨∃ o,yMO D a s b f i an=(o,0)∧(o.length:Int)=min b (234*((i+f:Nat):Int)):=by
 intro f
 induction f with
 |zero=>intro i an _ hl;exact .inr ⟨an,rfl,by rw [hl,zLz]⟩
 |succ f ih=>
  intro i an hi hacc;have h0:D.readE (a+i)=0:=by unfold Dsk.readE;rw [ig,show D.has (a+i)=true from zY zO];rfl
  unfold yMO;rw [if_neg (by rw [h0];simp)];split
  ·exact .inl rfl
  ·rename_i pc cK;have hl:=yKX cK;split
   ·exact .inl rfl
   ·rename_i bk;rcases ih (i+1) (an++pc) zO (by rw [zLa];omega) with h|⟨o,h,bI⟩
    ·exact .inl h
    ·exact .inr ⟨o,h,by rw [bI];congr 3;omega⟩
theorem yP7 {D:Dsk} (ig:D.off=false) (a n s k:Nat) (ha:a+n≤D.n) (hs:1≤s) (hk:k≤234*n) (hn:n≤65536):yCd D a n s k=([],15)∨∃ o,yCd D a n s k=(o,0)∧o.length=k:=by
 have hm:D.mayB a n=true:=by unfold Dsk.mayB;exact zY zO
 have ah:yCI n=234*n:=by unfold yCI;omega
 have hsec:(yCm k).toNat≤n∧(k:Int)≤234*((yCm k).toNat:Int):=by unfold yCm;split <;> omega
 unfold yCd;rw [if_neg (by rw [hm];simp),if_neg zO,if_neg zO,if_neg zO,if_neg (by rw [ig];simp)];rcases ySL ig (a:Int) (s:Int) (k:Int) n zO zO (yCm k).toNat 0 [] zO (by simp;omega) with h|⟨o,h,hl⟩
 ·exact .inl h
 ·refine .inr ⟨o,h,?_⟩;rw [zLq] at hl;omega
theorem yVx {D:Dsk} (h:yBA D 0=0):∃ v:Nat,yB6 D 0=v∧1≤v∧v≤1099511627776:=by
 have hb:=yHa D 0 2;have e:yB6 D 0=yA3 D 0 2:=if_pos h;have ao:yA3 D 0 2≠0:=fun q=>by
  unfold yBA at h;split at h
  ·cases h
  split at h
  ·cases h
  rw [show (0:Int).toNat=0 from rfl,if_pos q] at h;cases h
 exact ⟨(yA3 D 0 2).toNat,by rw [e];omega,zO,zO⟩
theorem ySM {n:Nat} {D:Dsk} (ig:D.off=false) (hn:D.n=n) (h1:64≤n) (h2:n≤65536):(∃ r0 ab v r,LiesO n D r0 ab v r)∨∃ e,Bad n D e:=by
 by_cases hs:yBA D 0=0;rotate_left
 ·exact .inr ⟨_,.slot _ rfl hs⟩
 obtain ⟨v,hv,v1⟩:=yVx hs;obtain ⟨f1,f2,f3,f4⟩:=yBf h1 v;have fB:yAA n≤65536:=by unfold yAA;omega
 cases hh:yTn n (234*yAA n) (yBT D 0) with
 |none=>exact .inr ⟨15,.hdr hs hh⟩
 |some k=>
  obtain ⟨gL,hk⟩:=yVu hh;rcases yP7 ig (yAG n v) (yAA n) v k zO v1.1 hk fB with ha|⟨s,ha,dw⟩
  ·exact .inr ⟨15,.area v k hs hv v1 gL hk ha⟩
  ·cases hr:yG2 s with
   |none=>exact .inr ⟨15,.rows v k s hs hv v1 gL hk ha zO hr⟩
   |some r0=>
    obtain ⟨e,bJ⟩:=yRi hr;subst e;subst dw;rcases yVw (yHb D (yAN n:Nat) (yA7 n:Nat) v (((yA7 n:Nat):Int).toNat+1) 0 []) with hd|⟨i,hi,hb,hg⟩
    ·by_cases ah:(yAk (lgR r0 (yHb D (yAN n:Nat) (yA7 n:Nat) v (((yA7 n:Nat):Int).toNat+1) 0 []) (yHb D (yAN n:Nat) (yA7 n:Nat) v (((yA7 n:Nat):Int).toNat+1) 0 []).length)).length≤234*yAA n
     ·exact .inl ⟨r0,_,v,_,hs,hv,v1,gL,ha,bJ,hk,rfl,hd,rfl,ah⟩
     ·exact .inr ⟨15,.room v r0 _ hs hv v1 gL hk ha bJ rfl hd zO⟩
    ·exact .inr ⟨15,.bat v r0 _ i hs hv v1 gL hk ha bJ rfl hi hb hg⟩
theorem yGp (n:Nat) (h:n<2 ^ 32):IntKind.u32.wrap (n:Int)=(n:Int):=by have e:IntKind.u32.wrap (n:Int)=(n:Int) % 4294967296:=rfl;rw [e];omega
theorem yP8 (x y:Nat) (hx:x<2 ^ 32) (hy:y<2 ^ 32):bits .xor .u32 (x:Int) (y:Int)=((x ^^^ y:Nat):Int):=by
 have e:bits .xor .u32 (x:Int) (y:Int)=IntKind.u32.wrap ((BitVec.ofInt 32 (x:Int) ^^^ BitVec.ofInt 32 (y:Int)).toNat:Int):=rfl;have b1:(BitVec.ofInt 32 (x:Int)).toNat=x:=by rw [BitVec.toNat_ofInt];omega
 have b2:(BitVec.ofInt 32 (y:Int)).toNat=y:=by rw [BitVec.toNat_ofInt];omega
 rw [e,BitVec.toNat_xor,b1,b2];exact yGp _ (Nat.xor_lt_two_pow hx hy)
theorem yXN (x:Nat) (hx:x<2 ^ 32):bits .and .u32 (x:Int) 15=((x % 16:Nat):Int):=by
 have e:bits .and .u32 (x:Int) 15=IntKind.u32.wrap ((BitVec.ofInt 32 (x:Int) &&& BitVec.ofInt 32 15).toNat:Int):=rfl;have b1:(BitVec.ofInt 32 (x:Int)).toNat=x:=by rw [BitVec.toNat_ofInt];omega
 have b2:(BitVec.ofInt 32 15).toNat=2 ^ 4-1:=rfl;rw [e,BitVec.toNat_and,b1,b2,Nat.and_two_pow_sub_one_eq_mod];exact yGp _ zO
def yNu (a:Nat):Nat:=(a / 2) ^^^ (if a % 2=1 then 2197175160 else 0)
theorem xAt (a:Nat) (h:a<2 ^ 32):yNu a<2 ^ 32:=by unfold yNu;exact Nat.xor_lt_two_pow zO (by split <;> omega)
theorem yXO (x y:Nat):(x ^^^ y) / 2=x / 2 ^^^ y / 2:=by have:=Nat.shiftRight_xor_distrib (a:=x) (b:=y) (i:=1);simpa [Nat.shiftRight_eq_div_pow] using this
theorem xAu (x y:Nat):(x ^^^ y) % 2=(x % 2 ^^^ y % 2):=by have:=Nat.xor_mod_two_pow (a:=x) (b:=y) (n:=1);simpa using this
theorem yXP (x y:Nat):yNu (x ^^^ y)=yNu x ^^^ yNu y:=by
 unfold yNu;rw [yXO,xAu];obtain ⟨p,hp⟩:∃ p:Nat,p=2197175160:=⟨_,rfl⟩;rw [← hp];obtain ⟨u,hu⟩:∃ u,u=x / 2:=⟨_,rfl⟩;obtain ⟨v,hv⟩:∃ v,v=y / 2:=⟨_,rfl⟩;rw [← hu,← hv];rcases Nat.mod_two_eq_zero_or_one x with h1|h1 <;> rcases Nat.mod_two_eq_zero_or_one y with h2|h2 <;> rw [h1,h2]
 ·simp
 ·simp [Nat.xor_assoc]
 ·have e:u ^^^ v ^^^ p=u ^^^ p ^^^ v:=by rw [Nat.xor_assoc,Nat.xor_comm v p,← Nat.xor_assoc]
  simpa using e
 ·have e:(u ^^^ p) ^^^ (v ^^^ p)=u ^^^ v:=by rw [Nat.xor_assoc,Nat.xor_comm v p,← Nat.xor_assoc p p v,Nat.xor_self,Nat.zero_xor]
  simp [e]
def yEz:Nat→Nat→Nat
 |0,r=>r
 |k+1,r=>yNu (yEz k r)
theorem yJG (k a:Nat) (h:a<2 ^ 32):yEz k a<2 ^ 32:=by
 induction k with
 |zero=>exact h
 |succ k ih=>exact xAt _ ih
theorem yVy (k x y:Nat):yEz k (x ^^^ y)=yEz k x ^^^ yEz k y:=by
 induction k with
 |zero=>rfl
 |succ k ih=>show yNu (yEz k (x ^^^ y))=_;rw [ih,yXP];rfl
theorem yVz (j k a:Nat):yEz (j+k) a=yEz j (yEz k a):=by
 induction j with
 |zero=>rw [zLq];rfl
 |succ j ih=>rw [Nat.add_right_comm];show yNu (yEz (j+k) a)=_;rw [ih];rfl
theorem yIj (m:Nat):yNu (2*m)=m:=by unfold yNu;have h1:2*m / 2=m:=zO;have h2:¬ (2*m % 2=1):=zO;rw [h1,if_neg h2,Nat.xor_zero]
theorem yVA (h:Nat):yEz 4 (16*h)=h:=by show yNu (yNu (yNu (yNu (16*h))))=h;rw [show 16*h=2*(2*(2*(2*h))) by omega,yIj,yIj,yIj,yIj]
theorem yXQ:∀ l,l<16→nibT.getD l 0=((yEz 4 l:Nat):Int):=zX
theorem xAv (h l:Nat) (hl:l<16):(16*h) ^^^ l=16*h+l:=by
 apply Nat.eq_of_testBit_eq;intro j;rw [Nat.testBit_xor,show 16*h=2 ^ 4*h from rfl,Nat.testBit_two_pow_mul_add h (i:=4) hl,Nat.testBit_two_pow_mul];by_cases hj:j<4
 ·simp [hj,show ¬ 4≤j by omega]
 ·have:l.testBit j=false:=Nat.testBit_lt_two_pow (Nat.lt_of_lt_of_le hl (show 2 ^ 4≤2 ^ j from Nat.pow_le_pow_right zO zO));simp [hj,this];omega
theorem yRk (a:Nat) (h:a<2 ^ 32):yMI (a:Int)=((yEz 4 a:Nat):Int):=by
 unfold yMI;have e1:(a:Int).fdiv (2 ^ (min (4:Int).toNat IntKind.u32.bits))=((a / 16:Nat):Int):=by rw [Int.fdiv_eq_ediv_of_nonneg _ (by exact Int.pow_nonneg zX)];rfl
 rw [e1,yXN a h,zLe,yXQ _ (Nat.mod_lt _ zO),yP8 _ _ zO (yJG _ _ zO)];congr 1;have e2:a=(16*(a / 16)) ^^^ (a % 16):=by rw [xAv _ _ (Nat.mod_lt _ zO)];omega
 conv=>rhs;rw [e2,yVy,yVA]
def ySN (r:Nat) (c:UInt8):Nat:=yEz 8 (r ^^^ c.toNat)
theorem yXR (r:Nat) (c:UInt8) (h:r<2 ^ 32):ySN r c<2 ^ 32:=by have:=zLy c;exact yJG _ _ (Nat.xor_lt_two_pow h zO)
theorem yOz (r:Nat) (c:UInt8) (h:r<2 ^ 32):yJ8 (r:Int) c=((ySN r c:Nat):Int):=by have hc:=zLy c;have hx:r ^^^ c.toNat<2 ^ 32:=Nat.xor_lt_two_pow h zO;unfold yJ8 ySN;rw [yGp _ zO,yP8 _ _ h zO,yRk _ hx,yRk _ (yJG _ _ hx),← yVz]
def yVB (r:Nat) (l:zB):Nat:=l.foldl ySN r
theorem yKY (l:zB):∀ (r:Nat),r<2 ^ 32→yG7 (r:Int) l=((yVB r l:Nat):Int)∧yVB r l<2 ^ 32:=by
 unfold yG7 yVB
 induction l with
 |nil=>intro r h;exact ⟨rfl,h⟩
 |cons c l ih=>
  intro r h;simp only [List.foldl_cons];rw [yOz r c h];exact ih _ (yXR r c h)
theorem yVC (s:Nat) (l:zB) (i:Nat) (c:UInt8) (h:l[i]? = some c):yVB s (l.take (i+1))=ySN (yVB s (l.take i)) c:=by unfold yVB;rw [List.take_add_one,h];simp
def ySO (s:Nat):Nat:=s ^^^ 4294967295
theorem yNd (s:Nat) (h:s<2 ^ 32):ySO s<2 ^ 32:=Nat.xor_lt_two_pow h zO
theorem yKZ (s:Nat) (h:s<2 ^ 32):yG8 (s:Int)=((ySO s:Nat):Int):=by have:=yP8 4294967295 s zO h;unfold yG8 ySO;rw [Nat.xor_comm];exact this
theorem yK0 (l:zB):yDQ l=((ySO (yVB (ySO 0) l):Nat):Int):=by unfold yDQ;have h0:=yKZ 0 zO;have h1:=yKY l (ySO 0) (yNd 0 zO);rw [show (0:Int)=((0:Nat):Int) from rfl,h0,h1.1,yKZ _ h1.2]
theorem yNe (l:zB):0≤yDQ l∧yDQ l<4294967296:=by have h1:=yKY l (ySO 0) (yNd 0 zO);have h2:=yNd _ h1.2;rw [yK0];omega
theorem yK1 (a z b:zB):lay (a++z) a.length b=a++(b++z.drop b.length):=by unfold lay;rw [List.take_left' rfl,zLG,zLl zO,Nat.add_sub_cancel_left,List.nil_append]
def yB5 (v:Int) (s:zB):zB:=yE0 v 8++(yE0 (IntKind.u64.wrap s.length) 2++(s++zs (234-s.length)))
theorem yGq (v:Int) (s:zB) (h:s.length≤234):(yB5 v s).length=244:=by unfold yB5;simp only [zLa,yAT,yFY];omega
theorem yK2 (n m:Nat):(zs n).drop m=zs (n-m):=by simp [zs]
theorem yP9 (v:Int) (s:zB) (h:s.length≤234):yAF v s=yB5 v s++(yE0 (IntKind.u64.wrap (yDQ (yB5 v s))) 4++yE0 v 8):=by
 have e1:yJe v=yE0 v 8++zs 248:=by have:=yK1 [] (zs 256) (yE0 v 8);rw [yAT,yK2] at this;exact this
 have e2:yG9 v s=yE0 v 8++(yE0 (IntKind.u64.wrap s.length) 2++zs 246):=by unfold yG9;rw [e1];have:=yK1 (yE0 v 8) (zs 248) (yE0 (IntKind.u64.wrap s.length) 2);rw [yAT,yAT,yK2] at this;exact this
 have e3:yDS v s=yB5 v s++zs 12:=by
  unfold yDS;rw [e2,← zLd];have:=yK1 (yE0 v 8++yE0 (IntKind.u64.wrap s.length) 2) (zs 246) s;rw [zLa,yAT,yAT,yK2] at this;rw [this];unfold yB5;simp only [zLd];congr 3;have:zs (246-s.length)=zs (234-s.length)++zs 12:=by unfold zs;rw [List.replicate_append_replicate];congr 1;omega
  rw [this]
 have hl:=yGq v s h;have e3t:(yDS v s).take 244=yB5 v s:=by rw [e3,List.take_left' hl]
 have e4:yHP v s=yB5 v s++(yE0 (IntKind.u64.wrap (yDQ (yB5 v s))) 4++zs 8):=by unfold yHP;rw [e3t,e3];have:=yK1 (yB5 v s) (zs 12) (yE0 (IntKind.u64.wrap (yDQ (yB5 v s))) 4);rw [hl,yAT,yK2] at this;exact this
 unfold yAF;rw [e4,← zLd];have:=yK1 (yB5 v s++yE0 (IntKind.u64.wrap (yDQ (yB5 v s))) 4) (zs 8) (yE0 v 8);rw [zLa,hl,yAT,yAT,yK2] at this;rw [this];simp [zs]
theorem yOA (l:zB):yDX l 2=(((l.getD 0 0).toNat+256*(l.getD 1 0).toNat:Nat):Int):=by have h0:=zLy (l.getD 0 0);obtain ⟨a,ha⟩:∃ a,a=l.getD 0 0:=⟨_,rfl⟩;obtain ⟨b,hb⟩:∃ b,b=l.getD 1 0:=⟨_,rfl⟩;rw [← ha] at h0;have h1:=yFu 0 0 a zO zO;have h2:=yFu (0+a.toNat*2 ^ (8*0)) 1 b zO (by show 0+a.toNat*1<256;omega);show yEq (yEq 0 0 (l.getD 0 0)) 1 (l.getD 1 0)=_;rw [← ha,← hb];rw [show (0:Int)=((0:Nat):Int) from rfl,h1,h2];show ((0+a.toNat*1+b.toNat*256:Nat):Int)=_;omega
theorem yVD (raw:zB):yDD raw=(raw.getD 8 0).toNat+256*(raw.getD 9 0).toNat:=by unfold yDD;rw [yOA,yHQ,yHQ,zLe]
theorem yL1 (v i:Nat) (hi:i<8):yDR (v:Int) i=UInt8.ofNat (v / 256 ^ i % 256):=by apply UInt8.toNat_inj.1;rw [yGB v i hi,UInt8.toNat_ofNat',show (256:Nat) ^ i=2 ^ (8*i) by rw [show (256:Nat)=2 ^ 8 from rfl,← Nat.pow_mul]];omega
section
variable {P:Program} {W:World} {n:Nat} {k:KK} {E:Env} {H R:List SP} {x y z:Operand} {t u:TypeId} {kd:IntKind}
theorem yJH {i j r:Int} (hx:Env.ev E x=some (.int kd i)) (hy:Env.ev E y=some (.int kd j)) (h:bits .xor kd i j=r):Ev P W n E H (.binOp .xor t x y u) (.int kd r):=by subst h;exact yYD hx hy
theorem yIk {i j r:Int} (hx:Env.ev E x=some (.int kd i)) (hy:Env.ev E y=some (.int kd j)) (hb:0≤i∧0<j) (h:i % j=r):Ev P W n E H (.binOp .rem t x y u) (.int kd r):=by subst h;exact yFX hx hy hb
theorem yNf {i j r:Int} (hx:Env.ev E x=some (.int kd i)) (hy:Env.ev E y=some (.int kd j)) (hj:j≠0) (h:kd.wrap (i.tdiv j)=r):Ev P W n E H (.binOp .quo t x y u) (.int kd r):=by subst h;exact yTA hx hy hj
theorem yRl {i j r:Int} (hx:Env.ev E x=some (.int kd i)) (hy:Env.ev E y=some (.int kd j)) (h:kd.wrap (i*j)=r):Ev P W n E H (.binOp .mul t x y u) (.int kd r):=by subst h;exact yYt hx hy
theorem yXS {i j r:Int} (hx:Env.ev E x=some (.int kd i)) (hy:Env.ev E y=some (.int kd j)) (h:kd.wrap (i+j)=r):Ev P W n E H (.binOp .add t x y u) (.int kd r):=by subst h;exact yQq hx hy
theorem KJ.row_shape3 {v:Value} {e size m:Nat} {xs:List Value} (ap:Sel (yA4 v e size m xs) H R) (hm:0<m) (h:∀ g c,v=.slice (zq g) m c→KJ W n k E H):KJ W n k E H:=
 ⟨fun a w p s=>by
  rcases (s.left.row ap).2 with ⟨_,q⟩|⟨g,c,_,q,_⟩
  ·omega
  ·exact (h g c q).go a w p s⟩
theorem xAw {e size:Nat} {H R:List SP}:∀ g,yAH (H++R) g→yAH (H++[yA4 (.slice none 0 0) e size 0 []]++R) g:=by intro g q;have q2:yAH (yA4 (.slice none 0 0) e size 0 []::(H++R)) g:=⟨fun _=>none,g,(fun _ _ q=>by cases q),(fun _ _ q=>by cases q),.rfl,⟨by simp,.inl ⟨rfl,rfl⟩⟩,q⟩;refine yCz ?_ g q2;have:(H++[yA4 (.slice none 0 0) e size 0 []]++R)=H++yA4 (.slice none 0 0) e size 0 []::R:=zW;rw [this];exact List.perm_middle.symm
end
theorem yXT (a:Nat) (h:a<2 ^ 32):IntKind.u32.wrap (((a:Nat):Int).tdiv 2)=((a / 2:Nat):Int):=by
 have:((a:Nat):Int).tdiv 2=((a / 2:Nat):Int):=by rw [Int.tdiv_eq_ediv_of_nonneg zO];rfl
 rw [this];exact yGp _ zO
theorem yXU (a:Nat) (h:a<2 ^ 64):IntKind.u64.wrap (((a:Nat):Int).tdiv 256)=((a / 256:Nat):Int):=by
 have:((a:Nat):Int).tdiv 256=((a / 256:Nat):Int):=by rw [Int.tdiv_eq_ediv_of_nonneg zO];rfl
 rw [this];exact yBC _ zO
theorem yXV (z:Nat):IntKind.u8.wrap (z:Int)=((z % 256:Nat):Int):=by have:IntKind.u8.wrap (z:Int)=(z:Int) % 256:=rfl;rw [this];omega
section
variable {W:World}
theorem ySP (s:Nat) (hs:s<2 ^ 32) (l:zB) (hl:l.length<4611686018427387904):CtU prog W 218 [.int .u32 (s:Nat),strV l] [] (.int .u32 ((ySO (yVB (ySO s) l):Nat):Int)) []:=by
 obtain ⟨A,hA⟩:∃ A:Nat→Nat,A=fun i=>yVB (ySO s) (l.take i):=⟨_,rfl⟩;have eK:ySO s=A 0:=by rw [hA];simp [yVB]
 have jL:yVB (ySO s) l=A l.length:=by rw [hA];simp
 have kC:∀ i c,l[i]? = some c→A (i+1)=ySN (A i) c:=fun i c h=>by rw [hA];exact yVC _ l i c h
 have hAb:∀ i,A i<2 ^ 32:=fun i=>by rw [hA];exact (yKY _ _ (yNd s hs)).2
 have aZ:bits .xor .u32 (s:Nat) 4294967295=((A 0:Nat):Int):=by rw [← eK];exact yP8 s 4294967295 hs zO
 have df:bits .xor .u32 ((A l.length:Nat):Int) 4294967295=((ySO (A l.length):Nat):Int):=yP8 _ 4294967295 (hAb _) zO;rw [jL];clear hA jL eK;refine zE func218 ntmps218 fun R=>?_;repeat' (first|refine yNG ?_;refine yAa (yJH rfl rfl aZ) ?_|refine xst ?_|refine xsf ?_ ?_|intro _)
 refine yAC (fun i:{k:Nat//k≤l.length}=>[(1,strV l),(5,.int .u32 ((A i.1:Nat):Int)),(6,zi (i.1:Nat))]) (fun _=>R) (fun i=>l.length-i.1) ⟨0,zO⟩ xB (fun _ q=>q) (fun ⟨i,hi⟩=>?_);dsimp only;by_cases hlt:i<l.length
 ·obtain ⟨c,hc⟩:∃ c,l[i]? = some c:=⟨_,zLb hlt⟩;have hcb:=zLy c;have ax:=kC i c hc;have jK:l[(i:Int).toNat]? = some c:=by rw [zLe];exact hc
  obtain ⟨r,hr⟩:∃ r,r=A i ^^^ c.toNat:=⟨_,rfl⟩;have hrb:r<2 ^ 32:=by rw [hr];exact Nat.xor_lt_two_pow (hAb i) zO
  have hcv:IntKind.u32.wrap ((c.toNat:Nat):Int)=((c.toNat:Nat):Int):=yGp _ zO;have hxc:bits .xor .u32 ((A i:Nat):Int) ((c.toNat:Nat):Int)=((yEz 0 r:Nat):Int):=by rw [yP8 _ _ (hAb i) zO,hr];rfl
  have ax:A (i+1)=yEz 8 r:=by rw [ax,hr];rfl
  clear hr;repeat' (first|refine yNG ?_;refine yAa (yJH rfl rfl hxc) ?_|refine xqa ?_|refine xsf ?_ ?_|intro _)
  refine yAC (fun k:{k:Nat//k≤8}=>[(1,strV l),(5,.int .u32 ((yEz k.1 r:Nat):Int)),(6,zi (i:Nat)),(7,zi (k.1:Nat))]) (fun _=>R) (fun k=>8-k.1) ⟨0,zO⟩ xB (fun _ q=>q) (fun ⟨k,hk⟩=>?_);dsimp only;by_cases hk8:k<8
  ·have aJ:=yJG k r hrb;have aj:yEz (k+1) r=yNu (yEz k r):=rfl;obtain ⟨a,ha⟩:∃ a,a=yEz k r:=⟨_,rfl⟩;rw [← ha] at aJ aj ⊢;have hrem:((a:Nat):Int) % 2=((a % 2:Nat):Int):=zO;have hquo:=yXT a aJ;by_cases hp:a % 2=1
   ·have hq:((a % 2:Nat):Int)=1:=by omega
    have hxp:bits .xor .u32 ((a / 2:Nat):Int) 2197175160=((yEz (k+1) r:Nat):Int):=by rw [aj,yNu,if_pos hp];exact yP8 (a / 2) 2197175160 zO zO
    repeat' (first|refine zad (k+1) ?_|refine yEm ?_;refine yAa (yNf rfl rfl zO hquo) ?_|refine yBu ?_;refine yAa (yIk rfl rfl zO hrem) ?_|refine yNG ?_;refine yAa (yJH rfl rfl hxp) ?_|refine xqa ?_|refine xsf ?_ ?_|intro _)
    all_goals refine yAs ⟨k+1,zO⟩ (by show 8-(k+1)<8-k;omega) xB (fun _ q=>q)
   ·have hq:((a % 2:Nat):Int)≠1:=by omega
    have hsp:yEz (k+1) r=a / 2:=by rw [aj,yNu,if_neg hp,Nat.xor_zero]
    repeat' (first|refine zad (k+1) ?_|refine yEm ?_;refine yAa (yNf rfl rfl zO hquo) ?_|refine yBu ?_;refine yAa (yIk rfl rfl zO hrem) ?_|refine xqa ?_|refine xsf ?_ ?_|intro _)
    all_goals refine yAs ⟨k+1,zO⟩ (by show 8-(k+1)<8-k;omega) ?_ (fun _ q=>q)
    all_goals rw [hsp]
    all_goals exact xB
  ·have hk8:k=8:=by omega
   subst hk8;rw [← ax];repeat' (first|refine zad (i+1) ?_|refine xst ?_|refine xsf ?_ ?_|intro _)
   all_goals refine yAs ⟨i+1,zO⟩ (by show l.length-(i+1)<l.length-i;omega) xB (fun _ q=>q)
 ·have aY:i=l.length:=by omega
  subst aY;repeat' (first|refine yNG ?_;refine yAa (yJH rfl rfl df) ?_|refine xst ?_|refine xsf ?_ ?_|exact xdn ()|intro _)
theorem xAx (l:zB) (hl:l.length<4611686018427387904):CtU prog W 176 [strV l] [] (.int .u32 (yDQ l)) []:=by
 have c1:CtU prog W 218 [.int .u32 0,strV l] [] (.int .u32 (yDQ l)) []:=(ySP 0 zO l hl).val fun _=>by rw [yK0]
 refine zE func176 ntmps176 fun R=>?_;repeat' (first|refine xst ?_|refine xsf ?_ ?_|exact xdn ()|intro _)
theorem yNg (x:Nat) (hx:x<2 ^ 64) (n:Nat) (hn0:0<n) (hn:n≤8):CtU prog W 175 [.int .u64 (x:Nat),zi (n:Nat)] [] (strV (yE0 (x:Nat) n)) []:=by
 refine zE func175 ntmps175 fun R=>?_;repeat' (first|refine xst ?_|refine xsf ?_ ?_|intro _)
 refine yAC (fun i:{y:Nat × Value//y.1≤n}=>[(0,.int .u64 ((x / 256 ^ i.1.1:Nat):Int)),(1,zi (n:Nat)),(5,i.1.2),(6,zi (i.1.1:Nat))]) (fun i=>[]++[yA4 i.1.2 5 1 i.1.1 (bvs (yE0 (x:Nat) i.1.1))]++R) (fun i=>n-i.1.1) ⟨(0,.slice none 0 0),zO⟩ ?_ (fun g q=>xAw (H:=[]) g q) (fun ⟨⟨k,v⟩,hk⟩=>?_)
 ·have e:((x / 256 ^ 0:Nat):Int)=(x:Nat):=by simp
  dsimp only;rw [e];exact xB
 dsimp only at hk ⊢;by_cases hlt:k<n
 ·have hxk:x / 256 ^ k<2 ^ 64:=Nat.lt_of_le_of_lt (Nat.div_le_self _ _) hx;have hcv:IntKind.u8.wrap ((x / 256 ^ k:Nat):Int)=(((yDR (x:Nat) k).toNat:Nat):Int):=by rw [yXV,yL1 _ _ zO,UInt8.toNat_ofNat'];congr 1;omega
  have hq:IntKind.u64.wrap (((x / 256 ^ k:Nat):Int).tdiv 256)=((x / 256 ^ (k+1):Nat):Int):=by rw [yXU _ hxk,Nat.div_div_eq_div_mul,Nat.pow_succ]
  have ax:bvs (yE0 (x:Nat) k)++[.int .u8 ((yDR (x:Nat) k).toNat:Int)]=bvs (yE0 (x:Nat) (k+1)):=by rw [yNR];simp [bvs,bv]
  repeat' (first|refine yAQ ?_;refine yCN (a2:=0) rfl rfl (by rfl) zO xS (Src.cells (i:=1) xS xC) (by rfl) zO xO zO zO rfl rfl (fun gw cw=>?_)|refine yAD ?_;refine yAK rfl xF (by rfl) zO rfl (fun _=>?_)|refine zad (k+1) ?_|refine yEm ?_;refine yAa (yNf rfl rfl zO hq) ?_|refine xqa ?_|refine xsf ?_ ?_|intro _)
  all_goals rw [ax]
  all_goals refine yAs ⟨(k+1,_),zO⟩ (by show n-(k+1)<n-k;omega) xB (xN)
 ·have jn:k=n:=by omega
  subst jn;refine KJ.row_shape3 (v:=v) xS hn0 (fun g c e=>?_);subst e;repeat' (first|refine yAu ?_;refine yAa (yFr rfl xS) ?_|refine xst ?_|refine xsf ?_ ?_|exact xdn ()|intro _)
theorem yK3 (l:zB) (hl:l.length=8):CtU prog W 233 [strV l] [] (.int .u64 (yDX l 8)) []:=by
 obtain ⟨V,hV,hg,hb⟩:=yGF l 8 zO;rw [hg];refine zE func233 ntmps233 fun R=>?_;repeat' (first|refine xst ?_|refine xsf ?_ ?_|intro _)
 have h0:V / 256 ^ 8=0:=Nat.div_eq_of_lt hV;refine yAC (fun j:{j:Nat//j≤8}=>[(0,strV l),(3,.int .u64 ((V / 256 ^ j.1:Nat):Int)),(4,zi ((j.1:Int)-1))]) (fun _=>R) (fun j=>j.1) ⟨8,zO⟩ ?_ (fun _ q=>q) (fun ⟨j,hj⟩=>?_)
 ·dsimp only;rw [h0];exact xB
 dsimp only;cases j with
 |zero=>
  have hq:decide ((0:Int)≤((0:Nat):Int)-1)=false:=zX;have h1:V / 256 ^ 0=V:=zW;rw [h1];repeat' (first|refine xqa ?_|refine xsf ?_ ?_|exact xdn ()|intro _)
 |succ j=>
  have hq:decide ((0:Int)≤((j+1:Nat):Int)-1)=true:=zY zO;have hj1:(((j+1:Nat):Int)-1).toNat=j:=zO;obtain ⟨c,hc⟩:∃ c,l[j]? = some c:=⟨_,zLb zO⟩;have jK:l[(((j+1:Nat):Int)-1).toNat]? = some c:=by rw [hj1];exact hc
  have hcb:=zLy c;have hbj:=hb j zO;rw [List.getD,hc] at hbj;have hbj:c=yDR (V:Int) j:=hbj;have hcv:c.toNat=V / 256 ^ j % 256:=by rw [hbj,yL1 _ _ zO,UInt8.toNat_ofNat'];omega
  have hd:V / 256 ^ (j+1)=V / 256 ^ j / 256:=by rw [Nat.div_div_eq_div_mul,Nat.pow_succ]
  have hVj:V / 256 ^ j<2 ^ 64:=Nat.lt_of_le_of_lt (Nat.div_le_self _ _) hV;obtain ⟨a,ha⟩:∃ a,a=V / 256 ^ j:=⟨_,rfl⟩;rw [← ha] at hcv hd hVj;rw [hd];have hm:IntKind.u64.wrap (((a / 256:Nat):Int)*256)=((a / 256*256:Nat):Int):=by rw [show (((a / 256:Nat):Int)*256)=((a / 256*256:Nat):Int) by simp];exact yBC _ zO
  have hw:IntKind.u64.wrap ((c.toNat:Nat):Int)=((c.toNat:Nat):Int):=yBC _ zO;have bx:IntKind.u64.wrap (((a / 256*256:Nat):Int)+((c.toNat:Nat):Int))=((a:Nat):Int):=by rw [show (((a / 256*256:Nat):Int)+((c.toNat:Nat):Int))=((a:Nat):Int) by omega];exact yBC _ hVj
  repeat' (first|refine yAr ?_;refine yAa (yXS rfl rfl bx) ?_|refine yCj ?_;refine yAa (yBl (r:=((j:Nat):Int)-1) rfl rfl zO zO) ?_|refine yBN ?_;refine yAa (yRl rfl rfl hm) ?_|refine xqa ?_|refine xsf ?_ ?_|intro _)
  all_goals refine yAs ⟨j,zO⟩ (by show j<j+1;omega) ?_ (fun _ q=>q)
  all_goals dsimp only
  all_goals rw [← ha]
  all_goals exact xB
end
end Go.Proofs.YtoipmnikdiogcaaGreatDoor
