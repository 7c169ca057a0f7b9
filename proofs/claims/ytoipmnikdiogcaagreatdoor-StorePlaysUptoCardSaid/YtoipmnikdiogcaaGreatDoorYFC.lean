/-
  RdW4, StW9, StWA, StWE, StWF, Gnl3, Gnl5, SlX, Open14, TxH1.
-/
import Derived.Test.YtoipmnikdiogcaaGreatDoorYES
import Derived.Great.BuildSlice
import Derived.Laws.OwnMore
set_option maxRecDepth 100000
set_option maxHeartbeats 64000000
namespace Go.Proofs.YtoipmnikdiogcaaGreatDoor
open Go Go.RowKit
open Go.Proofs.Tryz
abbrev yRd:Pl:=(po [0,1,2] .nil)
abbrev yRe:Pl:=(po [0,1,2,3,4,5,6,7,8,9,10,11,12,13,14,15,16] .nil)
abbrev zTFC0:List (Nat×Pl):=[(5,yRd),(7,yRe)]
abbrev yYZ:Pl:=(po [0,1,2,3,4,8] (.ef 5 [8,0] (.op 6 (.op 7 (.ef 9 [] .nil)))))
abbrev yY0:Pl:=(po [0,1,2,3,4,5,6,7,8,9,10,11,12,13,14,15,16,17,18,19] (.ef 20 [] (po [21,22,23,24,25] .nil)))
abbrev yY1:Pl:=(po [0,1,2,3,4,5,6,7,8,9,10,11,12,13,14] (.ef 15 [] (po [16,17,18,19,20] .nil)))
abbrev yY2:Pl:=(po [0,1,2,3,5,8] (.ef 4 [8,5] (.ef 6 [8] (.op 7 (.ef 9 [] .nil)))))
abbrev yRf:Pl:=(.op 0 (.ef 1 [0] (.ef 2 [] .nil)))
abbrev yY3:Pl:=(.op 0 (.op 1 (.ef 2 [0] (.ef 3 [] (.ef 4 [] .nil)))))
theorem yFI {P:Program} {W:World} {n:Nat} {E:Env} {H:List SP} {t:TypeId} {x y z:Operand} {l r:zB} {i j:Int} {ki kj:IntKind} (hx:Env.ev E x=some (strV l)) (hy:Env.ev E y=some (.int ki i)) (hz:Env.ev E z=some (.int kj j)) [hu:UIs P t .string] (hb:0≤i∧i≤j∧j≤l.length) (h:(l.take j.toNat).drop i.toNat=r):Ev P W n E H (.slice t x (some y) (some z) none) (strV r):=by subst h;exact yFm hx hy hz hb
theorem yIg (most:Nat) (l:zB):(∃ e,ru l=.bad e∧rtx most l=.bad e∧txA most l=0)∨(∃ n t,ru l=.ok n t∧most<n∧rtx most l=.bad 3∧txA most l=0)∨(∃ n t,ru l=.ok n t∧¬ most<n∧t.length<n∧rtx most l=.bad 1∧txA most l=(vu n).length)∨(∃ n t,ru l=.ok n t∧¬ most<n∧¬ t.length<n∧rtx most l=.ok (t.take n) (t.drop n)∧txA most l=(vu n).length+n):=by
 unfold rtx txA;cases h:ru l with
 |bad e=>exact .inl ⟨e,rfl,rfl,rfl⟩
 |ok n t=>
  dsimp only;by_cases h1:most<n
  ·rw [if_pos h1,if_pos h1];exact .inr (.inl ⟨n,t,rfl,h1,rfl,rfl⟩)
  ·rw [if_neg h1,if_neg h1];by_cases h2:t.length<n
   ·rw [if_pos h2,if_pos h2];exact .inr (.inr (.inl ⟨n,t,rfl,h1,h2,rfl,rfl⟩))
   ·rw [if_neg h2,if_neg h2];exact .inr (.inr (.inr ⟨n,t,rfl,h1,h2,rfl,rfl⟩))
section
variable {W:World} {F:Nat→Addr} {p:Nat} {s:zB} {a:Nat}
theorem yXC (br bm most:Nat) (hm:most≤9223372036854775807) (ha:a≤s.length) (hs:s.length≤9223372036854775807) (e1:W.cell? ⟨9,0,none⟩=some (yAy F 1)) (e2:W.cell? ⟨10,0,none⟩=some (yAy F 2)) (e3:W.cell? ⟨11,0,none⟩=some (yAy F 3)) :Ct prog W 189 [zPp br,zPp bm] [rdP p s a,yAj br [zPp p] 144,yAj bm [.int .i64 (most:Nat)] 3] (fun _:Unit=>.tuple #[strV (rdS (rtx most (s.drop a))),yAy F (rdE (rtx most (s.drop a)))]) (fun _=>[rdP p s (a+txA most (s.drop a)),yAj br [zPp p] 144,yAj bm [.int .i64 (most:Nat)] 3]):=by
 have fE:=fun q hq=>yDM (W:=W) (F:=F) (p:=p) (s:=s) (a:=a) most hm ha hs e1 e2 e3 q hq;rcases yIg most (s.drop a) with ⟨e,h1,h2,h3⟩|⟨n,t,h1,h4,h2,h3⟩|⟨n,t,h1,h4,h5,h2,h3⟩|⟨n,t,h1,h4,h5,h2,h3⟩
 ·have cu:=fE _ h1;have ao:=yH7 (F:=F) (e:=e) (by rcases yDB h1 with h|h <;> omega);rw [show yOV most (.bad e)=0 from rfl,show yHx most (.bad e)=e from rfl,show yOU most (.bad e)=0 from rfl,zLz] at cu;rw [h2,h3,zLz];refine zE func189 ntmps189 fun R=>?_;repeat' (first|refine xca cu fun _=>?_|refine yAo ?_;refine yAa (yBZ rfl ao) ?_|refine xst ?_|refine xsf ?_ ?_|refine xdt zTFC0 ?_|exact xdn ()|apply zN|intro _)
 ·have cu:=fE _ h1;obtain ⟨k1,k2,k3⟩:=yM5 (t:=t) h4;rw [k1,k2,k3,zLz] at cu;rw [h2,h3,zLz];refine zE func189 ntmps189 fun R=>?_;repeat' (first|refine xca cu fun _=>?_|refine xst ?_|refine xsf ?_ ?_|refine xdt zTFC0 ?_|exact xdn ()|apply zN|intro _)
 ·have cu:=fE _ h1;obtain ⟨k1,k2,k3⟩:=yLQ (t:=t) h4;rw [k1,k2,k3] at cu;rw [h2,h3];have hf:=yEL h1;have ht:=congrArg List.length (yDs h1);rw [zLf] at ht;obtain ⟨a1,bi⟩:∃ a1,a1=a+(vu n).length:=⟨_,rfl⟩;rw [← bi] at cu hf ht ⊢;have cl:=yGK (W:=W) (p:=p) (s:=s) (a:=a1) hf zO;have ql:decide (((s.length-a1:Nat):Int)<((n:Nat):Int))=true:=zY zO;refine zE func189 ntmps189 fun R=>?_;repeat' (first|refine xca cl fun _=>?_|refine xca cu fun _=>?_|refine yAi ?_;refine yAa (yAm rfl e1) ?_|refine yAh ?_;refine yAa (yAc rfl rfl ql) ?_|refine xst ?_|refine xsf ?_ ?_|refine xdt zTFC0 ?_|exact xdn ()|apply zN|intro _)
 ·have cu:=fE _ h1;obtain ⟨k1,k2,k3⟩:=yLQ (t:=t) h4;rw [k1,k2,k3] at cu;rw [h2,h3,← Nat.add_assoc];have hf:=yEL h1;have dM:=yDs h1;have ht:=congrArg List.length dM;rw [zLf] at ht;obtain ⟨a1,bi⟩:∃ a1,a1=a+(vu n).length:=⟨_,rfl⟩;rw [← bi] at cu hf ht dM ⊢;have cl:=yGK (W:=W) (p:=p) (s:=s) (a:=a1) hf zO;have ql:decide (((s.length-a1:Nat):Int)<((n:Nat):Int))=false:=zZ zO;have dw:(s.take (Int.toNat ((a1+n:Nat):Int))).drop (Int.toNat ((a1:Nat):Int))=t.take n:=by rw [zLe,zLe,dM,List.drop_take];congr 1;omega
  refine zE func189 ntmps189 fun R=>?_;repeat' (first|refine xca cl fun _=>?_|refine xca cu fun _=>?_|refine yBb ?_;refine yAa (yFI rfl rfl rfl zO dw) ?_|refine zad (a1+n) ?_|refine yCj ?_;refine yAa (yBl (r:=((a1:Nat):Int)) rfl rfl zO zO) ?_|refine yAh ?_;refine yAa (yAc rfl rfl ql) ?_|refine xst ?_|refine xsf ?_ ?_|refine xdt zTFC0 ?_|exact xdn ()|apply zN|intro _)
theorem yEb (most:Nat) (hm:most≤9223372036854775807) (ha:a≤s.length) (hs:s.length≤9223372036854775807) (e1:W.cell? ⟨9,0,none⟩=some (yAy F 1)) (e2:W.cell? ⟨10,0,none⟩=some (yAy F 2)) (e3:W.cell? ⟨11,0,none⟩=some (yAy F 3)) (q:Rd zB) (hq:rtx most (s.drop a)=q) :CtU prog W 152 [zPp p,.int .i64 (most:Nat)] [rdP p s a] (.tuple #[strV (rdS q),yAy F (rdE q)]) [rdP p s (a+rdT q)]:=by
 have cu:∀ br bm,Ct prog W 188 [zPp p,.func (.func 189) #[] #[zPp br,zPp bm]] [rdP p s a,yAj br [zPp p] 144,yAj bm [.int .i64 (most:Nat)] 3] (fun _:Unit=>.tuple #[strV (rdS q),yAy F (rdE q)])
  (fun _=>[rdP p s (a+rdT q),yAj br [zPp p] 144,yAj bm [.int .i64 (most:Nat)] 3]):=fun br bm=>by
  have cc:=yXC (W:=W) (F:=F) (p:=p) (s:=s) (a:=a) br bm most hm ha hs e1 e2 e3;cases q with
  |bad e=>
   have ao:=yH7 (F:=F) (e:=e) (by rcases yES hq with h|h|h <;> omega);rw [hq] at cc;rw [show rdT (.bad e)=0 from rfl,zLz];refine zE func188 ntmps188 fun R=>?_;repeat' (first|refine yFB ?_;refine yH2 rfl xE rfl cc xP rfl (fun _=>?_)|refine yAo ?_;refine yAa (yBZ rfl ao) ?_|refine xst ?_|refine xsf ?_ ?_|exact xdn ()|intro _)
  |ok y t=>
   rw [hq,yU4 hq] at cc;refine zE func188 ntmps188 fun R=>?_;repeat' (first|refine yFB ?_;refine yH2 rfl xE rfl cc xP rfl (fun _=>?_)|refine xst ?_|refine xsf ?_ ?_|exact xdn ()|intro _)
 refine zE func152 ntmps152 fun R=>?_;repeat' (first|refine zbx fun g=>?_|refine xca (cu _ _) fun _=>?_|refine yCL ?_;refine yAa (yCW rfl rfl) ?_|refine xst ?_|refine xsf ?_ ?_|exact xdn ()|intro _)
end
section
variable {W:World} {F:Nat→Addr} {r:Rows}
theorem yGR (hE:ErrsOn L16 W F) (hr:RisR r) (hl:(yAk r).length≤4611686018427387904) (hl2:r.length≤144115188075855872) :Ct prog W 97 [strV (yAk r)] [] (fun x:Nat × TbQ [] r=>.pointer (some ⟨x.1,0,none⟩)) (fun x=>[tbP x.1 x.2.1.2.1 x.2.1.2.2,arP x.2.1.1]):=by
 have e1:W.cell? ⟨9,0,none⟩=some (yAy F 1):=hE.at_ 1 zX;have e2:W.cell? ⟨10,0,none⟩=some (yAy F 2):=hE.at_ 2 zX;have e3:W.cell? ⟨11,0,none⟩=some (yAy F 3):=hE.at_ 3 zX;have e5:W.cell? ⟨13,0,none⟩=some (yAy F 5):=hE.at_ 5 zX;have dz:W.cell? ⟨6,0,none⟩=some (yAy F 15):=hE.at_ 15 zX;have aC:=fun i p (h:r[i]? = some p)=>yIb h hl;obtain ⟨gL,iC⟩:=yDV r hl;have jQ:yHs r 0=0+(vu r.length).length:=by rw [yOm];omega
 have gq:=yNa r;have fI:=fun i p (h:r[i]? = some p)=>yKL h;have hvl:=yCe r.length;have fA:(vu r.length).length≤(yAk r).length:=by unfold yAk;rw [zLa];omega
 obtain ⟨S,hS⟩:∃ S,S=yAk r:=⟨_,rfl⟩;rw [← hS] at hl aC gL iC gq fA ⊢;clear hS;have bC:=yDK (W:=W) S;have cup:∀ g,CtU prog W 93 [zPp g,.int .i64 (S.length:Nat)] [rdP g S 0] (.tuple #[.int .i64 (r.length:Nat),.nilIface]) [rdP g S (yHs r 0)]:=fun g=>by have:=yDM (W:=W) (F:=F) (p:=g) (s:=S) (a:=0) S.length zO zO zO e1 e2 e3 (.ok r.length (r.flatMap rowB)) gL;have u1:yOU S.length (.ok r.length (r.flatMap rowB))=r.length:=(if_neg zO:(if S.length<r.length then 0 else r.length)=r.length);have u2:yHx S.length (.ok r.length (r.flatMap rowB))=0:=(if_neg zO:(if S.length<r.length then 3 else 0)=0);have u3:yOV S.length (.ok r.length (r.flatMap rowB))=(vu r.length).length:=(if_neg zO:(if S.length<r.length then 0 else (vu r.length).length)=(vu r.length).length);rw [u1,u2,u3,← jQ] at this;exact this
 have cd:∀ g,CtU prog W 94 [zPp g] [rdP g S S.length] .nilIface [rdP g S S.length]:=fun g=>by have:=yDL (W:=W) (F:=F) (p:=g) (s:=S) (a:=S.length) (Nat.le_refl _) zO e5;rw [if_neg zO] at this;exact this
 have cc:=yCY (W:=W) hE;have jM:=yC5 (W:=W) (yAy F 15);have ct:=yPR (W:=W);refine zE func97 ntmps97 fun R=>?_;refine KJ.arNil ?_;repeat' (first|(refine yAb ?_;first|refine xca ct fun q=>?_|refine xca cc fun _=>?_|refine xca (cup _) fun _=>?_|refine xca bC fun g=>?_)|refine xst ?_|refine xsf ?_ ?_|intro _)
 refine yAC (fun x:{x:Nat × zB × List Nd × Option Addr × Int//x.1≤r.length∧TbOk x.2.2.1 x.2.2.2.1 (r.take x.1)∧∀ i p,x.1=i+1→r[i]? = some p→x.2.1=p.1}=>[(0,strV S),(3,zPp g),(6,zPp q),(7,strV x.1.2.1),(24,.int .i64 (r.length:Nat)),(25,.int .i64 (x.1.1:Nat))])
  (fun x=>[tbP q x.1.2.2.2.1 x.1.2.2.2.2,arP x.1.2.2.1,rdP g S (yHs r x.1.1)]++R) (fun x=>r.length-x.1.1) ⟨(0,[],[],none,0),zLA _,TbOk.nil [],fun i p h=>by cases h⟩ xB (xN) (fun ⟨(i,last,N,a,b),hi,hT,bg⟩=>?_)
 dsimp only at hi hT bg ⊢;by_cases hlt:i<r.length;rotate_left
 ·have ql:decide ((i:Int)<(r.length:Nat))=false:=zZ zO;obtain rfl:i=r.length:=zO;rw [List.take_length] at hT;rw [gq];repeat' (first|refine xca cc fun _=>?_|refine xca (cd _) fun _=>?_|refine yAh ?_;refine yAa (yAc rfl rfl ql) ?_|refine xst ?_|refine xsf ?_ ?_|intro _)
  all_goals (exact xdn (q,⟨(N,a,b),(fun y h=>nomatch h),hT⟩))
 have ql:decide ((i:Int)<(r.length:Nat))=true:=zY zO;obtain ⟨p,hp⟩:∃ p,r[i]? = some p:=⟨_,zLb hlt⟩;obtain ⟨t,u,h1,h2,h3⟩:=aC i p hp;have hn:=fI i p hp;have ai:(r.take i).length≤144115188075855872:=by rw [zLg];omega
 have kg:=yXy hr hp;have ax:∀ j y,i+1=j+1→r[j]? = some y→p.1=y.1:=fun j y e h=>by obtain rfl:i=j:=zO;rw [hp] at h;cases h;rfl
 have dg:0<i→Op.bytesLess last p.1=true:=fun h0=>by obtain ⟨j,rfl⟩:∃ j,i=j+1:=⟨i-1,zO⟩;obtain ⟨y,hy⟩:∃ y,r[j]? = some y:=⟨_,zLb (show j<r.length by omega)⟩;rw [bg j y rfl hy];exact yRa hr hy hp
 obtain ⟨k,val⟩:=p;dsimp only at h1 h2 h3 hn kg dg ax
 have dP:CtU prog W 152 [zPp g,.int .i64 (S.length:Nat)] [rdP g S (yHs r i)] (.tuple #[strV k,.nilIface]) [rdP g S (yHs r i+(tx k).length)]:=
  yEb (W:=W) (F:=F) (p:=g) (s:=S) (a:=yHs r i) S.length zO zO zO e1 e2 e3 _ h1
 have de:CtU prog W 152 [zPp g,.int .i64 (S.length:Nat)] [rdP g S (yHs r i+(tx k).length)] (.tuple #[strV val,.nilIface]) [rdP g S (yHs r (i+1))]:=by rw [hn];exact yEb (W:=W) (F:=F) (p:=g) (s:=S) (a:=yHs r i+(tx k).length) S.length zO zO zO e1 e2 e3 _ h2
 have cp:=yPT (W:=W) (p:=q) (b:=b) (k:=k) (v:=val) hT zO;rw [kg] at cp;obtain ⟨x0,aZ⟩:∃ x,x=yHs r i:=⟨_,rfl⟩;obtain ⟨x1,fi⟩:∃ x,x=x0+(tx k).length:=⟨_,rfl⟩;rw [← aZ] at dP de ⊢;rw [← fi] at dP de;clear aZ fi h1 h2 h3 hn kg aC fI;by_cases h0:i=0
 ·have q0:decide (((i:Nat):Int)=0)=true:=zY zO;repeat' (first|(refine yAb ?_;first|refine xca cp fun y=>?_;obtain ⟨⟨N1,a1,b1⟩,g1,t1⟩:=y;dsimp only at g1 t1 ⊢|refine xca jM fun _=>?_|refine xca cc fun _=>?_|refine xca de fun _=>?_|refine xca dP fun _=>?_)|refine yAi ?_;refine yAa (yAm rfl dz) ?_|refine zad (i+1) ?_|refine yAt ?_;refine yAa (yAe rfl rfl q0) ?_|refine yAh ?_;refine yAa (yAc rfl rfl ql) ?_|refine xst ?_|refine xsf ?_ ?_|intro _)
  all_goals refine yAs ⟨(i+1,k,N1,a1,b1),hlt,t1,ax⟩ (by show r.length-(i+1)<r.length-i;omega) xB (xN)
 ·have q0:decide (((i:Nat):Int)=0)=false:=zZ zO;have gc:=dg zO;have ao:decide (k=last)=false:=zZ (fun e=>by rw [e,yDi] at gc;cases gc);have qs:(!(Op.bytesLess k last || decide (k=last)))=true:=by rw [yGb gc,ao];rfl
  repeat' (first|(refine yAb ?_;first|refine xca cp fun y=>?_;obtain ⟨⟨N1,a1,b1⟩,g1,t1⟩:=y;dsimp only at g1 t1 ⊢|refine xca jM fun _=>?_|refine xca cc fun _=>?_|refine xca de fun _=>?_|refine xca dP fun _=>?_)|refine yAi ?_;refine yAa (yAm rfl dz) ?_|refine zad (i+1) ?_|refine yAt ?_;refine yAa (yAe rfl rfl q0) ?_|refine yAh ?_;refine yAa (yAc rfl rfl ql) ?_|refine yAq ?_;refine yAa (yGc rfl rfl qs) ?_|refine xst ?_|refine xsf ?_ ?_|intro _)
  all_goals refine yAs ⟨(i+1,k,N1,a1,b1),hlt,t1,ax⟩ (by show r.length-(i+1)<r.length-i;omega) xB (xN)
end
section
variable {W:World} {F:Nat→Addr} {q s d n g:Nat} {D:Dsk} {r:Rows}
theorem yVb (hE:ErrsOn L16 W F) (ay:ErrsOn L8 W F) (hN:NibAt W) (h1:64≤n) (h2:n≤65536) (hr:RisR r) (bH:(yAk r).length≤234*yAA n) (v:Nat) (hv:1≤v∧v≤1099511627776) (life:Int) (hG:Good n r v D) :Ct prog W 50 [zPp s] [stP s d q n 0 none life false,DiskP d D] (fun _:Nat × TbQ [] r=>.tuple #[]) (fun x=>[stP s d x.1 n (v:Nat) none life false,DiskP d D,tbP x.1 x.2.1.2.1 x.2.1.2.2,arP x.2.1.1]):=by
 have e1:W.cell? ⟨9,0,none⟩=some (yAy F 1):=hE.at_ 1 zX;have e2:W.cell? ⟨10,0,none⟩=some (yAy F 2):=hE.at_ 2 zX;have e3:W.cell? ⟨11,0,none⟩=some (yAy F 3):=hE.at_ 3 zX;have e5:W.cell? ⟨13,0,none⟩=some (yAy F 5):=hE.at_ 5 zX;have dz:W.cell? ⟨6,0,none⟩=some (yAy F 15):=hE.at_ 15 zX;obtain ⟨f1,f2,f3,f4⟩:=yBf h1 v;have hA:=yBr (n:=n) zO;have fQ:=hG.nn;have ho:=hG.rest.calm.1;obtain ⟨g1,g2,g3,g4⟩:=hG.read h1 h2 hv bH;have g5:=hG.logE h1 h2 hv;obtain ⟨L,hL⟩:∃ L,L=(yAk r).length:=⟨_,rfl⟩;rw [← hL] at g3 g4 bH;have kA:(yAk r).length≤234*yAA n:=zO;have du:=(yDV r zO).2;have hLp:=yCG L;have hLl:=yCe L;have jN:=yCG n;have jR:=yCe n;obtain ⟨hd,aM⟩:∃ hd,hd=yBJ n L:=⟨_,rfl⟩;have ju:hd.length=(vu n).length+(vu L).length:=by rw [aM];unfold yBJ;rw [zLa]
 have bp:ru (hd.drop 0)=.ok n (vu L):=by rw [zLo,aM];exact yFz n zO (vu L)
 have bn:ru (hd.drop (vu n).length)=.ok L []:=by
  rw [aM];unfold yBJ;rw [List.drop_left];have:=yFz L zO []
  rwa [zLs] at this
 have cr:CtU prog W 52 [zPp d,.int .i64 0] [DiskP d D] (.tuple #[strV hd,.int .i64 (v:Nat),.nilIface]) [DiskP d D]:=by have:=yC9 (W:=W) (p:=d) (D:=D) ay hN zO 0;rw [g1,g2,g3,← aM] at this;exact this
 have bC:=yDK (W:=W) hd;have cu:∀ g,CtU prog W 91 [zPp g] [rdP g hd 0] (.tuple #[.int .u64 (n:Nat),.nilIface]) [rdP g hd (vu n).length]:=fun g=>by have:=yEa (W:=W) (F:=F) (p:=g) (s:=hd) (a:=0) zO zO e1 e2 (.ok n (vu L)) bp;rw [zLq] at this;exact this
 have cup:∀ g,CtU prog W 93 [zPp g,.int .i64 (234*yAA n:Nat)] [rdP g hd (vu n).length] (.tuple #[.int .i64 (L:Nat),.nilIface]) [rdP g hd ((vu n).length+(vu L).length)]:=fun g=>by have:=yDM (W:=W) (F:=F) (p:=g) (s:=hd) (a:=(vu n).length) (234*yAA n) zO zO zO e1 e2 e3 (.ok L []) bn;have u1:yOU (234*yAA n) (.ok L [])=L:=(if_neg zO:(if 234*yAA n<L then 0 else L)=L);have u2:yHx (234*yAA n) (.ok L [])=0:=(if_neg zO:(if 234*yAA n<L then 3 else 0)=0);have u3:yOV (234*yAA n) (.ok L [])=(vu L).length:=(if_neg zO:(if 234*yAA n<L then 0 else (vu L).length)=(vu L).length);rw [u1,u2,u3] at this;exact this
 have cd:∀ g,CtU prog W 94 [zPp g] [rdP g hd ((vu n).length+(vu L).length)] .nilIface [rdP g hd ((vu n).length+(vu L).length)]:=fun g=>by have:=yDL (W:=W) (F:=F) (p:=g) (s:=hd) (a:=(vu n).length+(vu L).length) zO zO e5;rw [if_neg zO] at this;exact this
 have cm:=yGl (W:=W);have cc:=yCY (W:=W) hE;have jM:=yC5 (W:=W) (yAy F 15);have bL:=fun q v=>yCw (W:=W) (s:=s) (d:=d) (q:=q) (n:=n) v none life false zO;have bj:CtU prog W 45 [zPp d] [DiskP d D] (.int .i64 (n:Nat)) [DiskP d D]:=by have:=yBM (W:=W) (p:=d) (D:=D);rw [fQ] at this;exact this
 have dX:CtU prog W 96 [zPp d,.int .i64 (yAG n v:Nat),.int .i64 (yAA n:Nat),.int .u64 (v:Nat),.int .i64 (L:Nat)] [DiskP d D] (.tuple #[strV (yAk r),.nilIface]) [DiskP d D]:=by have:=yGD (W:=W) (p:=d) (D:=D) ay dz hN zO (yAG n v:Nat) (yAA n:Nat) (v:Nat) (L:Nat);rw [g4] at this;exact this
 have dZ:=yGR (W:=W) (F:=F) hE hr zO zO;have fW:Ct prog W 98 [zPp d,.int .i64 (yAN n:Nat),.int .i64 (yA7 n:Nat),.int .i64 (v:Nat)] [DiskP d D] (fun x:Option Addr × Nat=>.tuple #[.slice x.1 0 x.2,.nilIface]) (fun x=>[DiskP d D,yA4 (.slice x.1 0 x.2) 9 1 0 []]):=by have h:=yHU (W:=W) (p:=d) (D:=D) ay hN (yAN n:Nat) (yA7 n:Nat) v zO ho ⟨zO,zO,zO,zO,zO,zO,zO⟩;have g5':=g5 (((yA7 n:Nat):Int).toNat);rw [g5'] at h;exact Ct.rowSl h
 have iw:=fun (q:Nat) (N:List Nd) (a:Option Addr) (b:Int) (hT:TbOk N a r)=>yEM (W:=W) (p:=q) (b:=b) hT zO;clear g1 g2 g3 g4 g5 bp bn hG aM;have w1:IntKind.u64.wrap ((n:Nat):Int)=((n:Nat):Int):=yAx _ zO;have w2:IntKind.u64.wrap ((v:Nat):Int)=((v:Nat):Int):=yAx _ zO;obtain ⟨m,hm⟩:∃ m:Nat,((v:Nat):Int) % 2=(m:Nat):=⟨v % 2,zO⟩;have dy:m<2:=zO;have hx:∀ z,(stC d z n 0 none life false)[0+1+0+((m:Nat):Int).toNat*1]? = some (.int .i64 (yAG n v:Nat)):=fun z=>by
  unfold yAG;rcases (show m=0∨m=1 by omega) with rfl|rfl
  ·rw [if_pos zO];rfl
  ·rw [if_neg zO];rfl
 have qe:decide (((n:Nat):Int)=((n:Nat):Int))=true:=zY rfl;have qs:decide (((yAk r).length:Nat)≤((234*yAA n:Nat):Int))=true:=zY zO;refine zE func50 ntmps50 fun R=>?_;repeat' (first|(refine yAb ?_;first|refine xca fW fun x=>?_;obtain ⟨xa,xc⟩:=x|refine xca dZ fun y=>?_;obtain ⟨q',⟨⟨N,a,b⟩,gN,hT⟩⟩:=y;dsimp only at gN hT ⊢|refine xca (cd _) fun _=>?_|refine xca (cup _) fun _=>?_|refine xca (bL _ _) fun _=>?_|refine xca (cu _) fun _=>?_|refine xca bC fun g=>?_)|refine yAi ?_;refine yAa (yDC rfl xS (hx _)) ?_|refine xqa ?_|refine xsf ?_ ?_|refine xdt [(8,yYZ),(9,yY0),(12,yY1),(21,yY2)] ?_|apply zN|intro _)
 refine yAC (fun _:Unit=>[(0,zPp s),(3,.int .i64 (v:Nat)),(109,.int .i64 0),(110,.int .i64 0)]) (fun _=>[stP s d q' n 0 none life false,DiskP d D,tbP q' a b,arP N]++R) (fun _=>0) () xB (xN) (fun _=>?_);have ql:decide ((0:Int)<0)=false:=rfl;repeat' (first|refine xca (bL _ _) fun _=>?_|refine xca (iw _ _ _ _ hT) fun _=>?_|refine xqa ?_|refine xsf ?_ ?_|refine xdt [(8,yYZ),(9,yY0),(12,yY1),(21,yY2)] ?_|apply zN|intro _)
 all_goals (exact xdn (q',⟨(N,a,b),gN,hT⟩))
theorem yP0 (_hE:ErrsOn L16 W F) (ay:ErrsOn L8 W F) (hN:NibAt W) (h1:64≤n) (h2:n≤65536) (A:SP) (oa:Option Addr) (oc:Nat) (ops:List BOp) (hL:Lv W opC 3 A oa ops) (ho:ops.length≤100000000) (r:Rows) (hr:yAP [] ops=r) (bH:(yAk r).length≤234*yAA n):CtU prog W 14 [zPp d,.slice oa ops.length oc] [A,DiskP d (Dsk.blank n)] .nilIface [A,DiskP d (yFG (Dsk.blank n) n 1 r)]:=by
 have hA:=yBr h2;obtain ⟨f1,f2,f3,f4⟩:=yBf h1 0;have hb:=yIF n zO h2;obtain ⟨t1,t2,t3⟩:=Holds.told hb (a:=0) (by show 0+2≤n;omega) (Holds.blank n 0 zO);obtain ⟨g1,g2,g3,g4,g5,g6,g7,g8⟩:=(Ready.blank h1 h2).fold r h1 h2 zO bH;rw [if_pos rfl] at t1;obtain ⟨ea,bT⟩:=yDf (E:=F) (show (14:Nat)≠0 by omega);have cr:CtU prog W 52 [zPp d,.int .i64 0] [DiskP d (Dsk.blank n)] (.tuple #[strV [],.int .i64 0,.iface 303 (.pointer (some ea))]) [DiskP d (Dsk.blank n)]:=by
  have:=yC9 (W:=W) (p:=d) (D:=Dsk.blank n) ay hN h2 0;have e0:yBA (Dsk.blank n) 0=14:=t1;rw [e0,bT] at this;have e1:yBT (Dsk.blank n) 0=[]:=by unfold yBT;rw [e0];rfl
  have e2:yB6 (Dsk.blank n) 0=0:=by unfold yB6;rw [e0];rfl
  rw [e1,e2] at this;exact this
 have bj:CtU prog W 45 [zPp d] [DiskP d (Dsk.blank n)] (.int .i64 (n:Nat)) [DiskP d (Dsk.blank n)]:=yBM (W:=W) (p:=d) (D:=Dsk.blank n);have gV:CtU prog W 46 [zPp d] [DiskP d (Dsk.blank n)] (.bool false) [DiskP d (Dsk.blank n)]:=yDy (W:=W) (p:=d) (D:=Dsk.blank n);have cov:=yGm (W:=W) (d:=d) (D:=Dsk.blank n) h1 h2 rfl;have cap:=fun q=>yC4 (W:=W) (N:=[]) (ta:=none) (r:=[]) (p:=q) (tb:=0) (TbOk.nil []) A oa oc ops hL (by simp;omega);rw [hr] at cap;have iw:=fun (q:Nat) (N:List Nd) (a:Option Addr) (b:Int) (hT:TbOk N a r)=>yEM (W:=W) (N:=N) (p:=q) (b:=b) hT zO;have bL:=fun s q=>yCw (W:=W) (s:=s) (d:=d) (q:=q) (n:=n) 0 none (Dsk.blank n).life false h2;have eG:=fun (s q:Nat) (N:List Nd) (a:Option Addr) (b:Int) (hT:TbOk N a r)=>yH9 (W:=W) (s:=s) (d:=d) (q:=q) (b:=b) (D:=Dsk.blank n) ay hN h1 h2 0 zO none (Dsk.blank n).life false hT rfl bH (by show ([]:List (Nat × zB)).length+65536<1073741823;simp) g1 g6 g7 g2 g8 g3.nn;obtain ⟨D0,hD0⟩:∃ D0,D0=Dsk.blank n:=⟨_,rfl⟩;obtain ⟨D2,aF⟩:∃ D2,D2=yFG (Dsk.blank n) n 1 r:=⟨_,rfl⟩;have q1:decide ((n:Int)<64)=false:=zZ zO;have q2:decide (((234*yAA n:Nat):Int)<((yAk r).length:Nat))=false:=zZ zO;rw [← aF] at eG ⊢;simp only [← hD0] at cr bj gV cov bL eG ⊢;clear hD0 aF g1 g2 g3 g4 g5 g6 g7 g8 t1 t2 t3 hb;refine zE func14 ntmps14 fun R=>?_;refine KJ.arNil ?_;repeat' (first|(refine yAb ?_;first|refine xca (eG _ _ _ _ _ hT) fun g=>?_|refine xca (bL _ _) fun _=>?_|refine xca (iw _ _ _ _ hT) fun _=>?_|refine xca (cap _) fun x=>?_;obtain ⟨⟨N,a,b⟩,gN,hT⟩:=x;dsimp only at gN hT ⊢|refine xca cov fun x=>?_;obtain ⟨s,q⟩:=x)|refine xqa ?_|refine xsf ?_ ?_|exact xdn ()|intro _)
theorem yVc (hE:ErrsOn L16 W F) (ay:ErrsOn L8 W F) (hN:NibAt W) (h1:64≤n) (h2:n≤65536) (hr:RisR r) (bH:(yAk r).length≤234*yAA n) (v:Nat) (hv:1≤v∧v+1≤1099511627776) (hG:Good n r v D) :Ct prog W 13 [zPp d] [DiskP d D] (fun x:Nat × (Nat × TbQ [] r) × Nat=>.tuple #[.pointer (some ⟨x.1,0,none⟩),.nilIface]) (fun x=>[stP x.1 d x.2.1.1 n ((v+1:Nat):Int) (some ⟨x.2.2,0,none⟩) D.life false,DiskP d (yFG D n (v+1) r),tbP x.2.1.1 x.2.1.2.1.2.1 x.2.1.2.1.2.2,arP x.2.1.2.1.1,yWv x.2.2 d n (v+1) (yFG D n (v+1) r).life]):=by
 have hA:=yBr (n:=n) zO;obtain ⟨f1,f2,f3,f4⟩:=yBf h1 0;have hn:=hG.nn;have ho:=hG.rest.calm.1;have hu:=hG.rest.und;obtain ⟨g1,g2,g3,g4,g5,g6,g7,g8⟩:=hG.ready.fold r h1 zO hv.2 bH;have bj:CtU prog W 45 [zPp d] [DiskP d D] (.int .i64 (n:Nat)) [DiskP d D]:=by have:=yBM (W:=W) (p:=d) (D:=D);rw [hn] at this;exact this
 have gV:CtU prog W 46 [zPp d] [DiskP d D] (.bool false) [DiskP d D]:=by have:=yDy (W:=W) (p:=d) (D:=D);rw [ho] at this;exact this
 have cov:=yGm (W:=W) (d:=d) (D:=D) h1 zO hn;have ir:=fun s q=>yVb (W:=W) (s:=s) (d:=d) (q:=q) (D:=D) hE ay hN h1 h2 hr bH v ⟨hv.1,zO⟩ D.life hG;have eG:=fun (s q:Nat) (N:List Nd) (a:Option Addr) (b:Int) (hT:TbOk N a r)=>yH9 (W:=W) (s:=s) (d:=d) (q:=q) (b:=b) (D:=D) ay hN h1 zO v hv.2 none D.life false hT hn bH (by rw [hu];simp) g1 g6 g7 g2 g8 g3.nn;obtain ⟨D2,aF⟩:∃ D2,D2=yFG D n (v+1) r:=⟨_,rfl⟩;simp only [← aF] at eG ⊢;have q1:decide ((n:Int)<64)=false:=zZ zO;clear aF g1 g2 g3 g4 g5 g6 g7 g8 hG;refine zE func13 ntmps13 fun R=>?_;refine KJ.lift0 ?_;repeat' (first|refine KJ.liftDeferF rfl (Evs.cons (v:=(zPp _)) rfl Evs.nil) ?_|refine KJ.liftDeferV rfl rfl xE ?_|refine KJ.liftStp (by constructor) ?_|refine KJ.liftCondT rfl ?_|refine KJ.liftCondF rfl ?_|refine KJ.liftOper ?_|(refine yAw ?_;first|refine yAv (d:=3) rfl (fun ge=>?_)|refine yAv (d:=2) rfl (fun gs=>?_))|refine xca (eG _ _ _ _ _ hT) fun gj=>?_|refine xca (ir _ _) fun y=>?_;obtain ⟨q',⟨⟨N,a,b⟩,gN,hT⟩⟩:=y;dsimp only at gN hT ⊢|refine xca cov fun x=>?_;obtain ⟨s,q⟩:=x|refine yCL ?_;refine yAa (yCW rfl rfl) ?_|refine xqa ?_|refine xsf ?_ ?_|refine xdt [(2,yRf),(4,yRf),(9,yY3)] ?_|refine KJ.liftDraws (id:=2) yRf zK zK ?_|refine KJ.liftDraws (id:=4) yRf zK zK ?_|refine KJ.liftDraws (id:=9) yY3 zK zK ?_|apply zN|intro _)
 all_goals exact KJ.liftDone2 (v1:=[zPp ge,zPp gs]) (v2:=[zPp ge]) rfl rfl (yQ8 ge gs) (yKJ ge) xP xP (.inl rfl) rfl (Rvs.cell rfl inferInstance xS rfl (Rvs.cell rfl inferInstance xS rfl Rvs.nil)) (s,(q',⟨(N,a,b),gN,hT⟩),gj) (by rfl) (xN)
end
def xAm (n:Nat) (r:Rows):Dsk:=yFG (Dsk.blank n) n 1 r
section
variable {W:World} {F:Nat→Addr} {r:Rows} {d n:Nat}
theorem yXD (hE:ErrsOn L16 W F) (ay:ErrsOn L8 W F) (hN:NibAt W) (h1:64≤n) (h2:n≤4096) (A:SP) (oa:Option Addr) (oc:Nat) (ops:List BOp) (hL:Lv W opC 3 A oa ops) (ho:ops.length≤100000000) (hr:yAP [] ops=r) (bH:(yAk r).length≤234*yAA n) :CtU prog W 14 [zPp d,.slice oa ops.length oc] [A,DiskP d (Dsk.blank n)] .nilIface [A,DiskP d (xAm n r)]:=yP0 hE ay hN h1 zO A oa oc ops hL ho r hr bH
end
section
variable {W:World} {F:Nat→Addr} {r:Rows} {s n k:Nat}
theorem StI.len {m:Nat} {x:StH} (h:StI n m r x) (h2:n≤65536):r.length≤10000000:=by
 have h1:=yC6 r;have h3:=yIe r;have h4:=h.room;have hA:=yBr h2;have h5:(yAk r).length=(vu r.length).length+(r.flatMap rowB).length:=by unfold yAk;rw [zLa]
 omega
end
theorem yLW {p q:Nat→Option (Nat × Nat)}:∀ (ps:List (Nat × Value)) (cells:Array Value),(∀ x ∈ ps,p x.1=q x.1)→Instr.fill p cells ps=Instr.fill q cells ps
 |[],_,_=>rfl
 |(
  i,v)::ps,cells,h=>by
  unfold Instr.fill;rw [h (i,v) zW];cases hq:q i with
  |none=>rfl
  |some x=>
  obtain ⟨off,m⟩:=x;dsimp only;split
  ·rfl
  ·exact yLW ps _ fun x hx=>h x (by simp [hx])
section
variable {P:Program} {W:World} {n d:Nat} {E:Env} {H H' R R':List SP} {k:KK} {t u e T:TypeId} {x y z:Operand} {b off c m:Nat} {α:Type} {enc:α→List Value} {sz:Nat}
theorem yIV {len:Nat} {ps:List (Nat × Operand)} {pv:List (Nat × Value)} {zs base vs:List Value} {places:List (Nat × Nat)} (hp:EvP E ps pv) [hu:UIs P t (.slice e)] [hs:SzIs P e m] [hz:ZcIs P e zs] (hb:(List.range (len*m)).map (fun x=>zs[x % zs.length]!)=base) (bk:(pv.all fun x=>decide (places[x.1]? = some (x.1*m,m)))=true) (hf:Fills places base pv vs) (hm:0<len*m∧len*m≤16777216) (hn:Nat.blt d n=true) (h:∀ g,KJ W n k ((d,.slice (zq g) len len)::E) (yAj g vs e::H)):KJ W n (.oper P (.buildSlice t len ps.toArray) (some d) k) E H:=by
 refine ⟨fun a w p s o ho hd=>?_⟩;have hz:=hz.h;have hs:=hs.h;cases hq:P.info? e with
 |none=>simp [hq] at hz
 |some it=>
  simp [hq] at hz hs;obtain ⟨zv,dN,eb⟩:=hz;subst hs;have e1:(ps.toArray.map fun (i,x)=>(i,a.eval x)).toList=pv:=by rw [← hp.map p];simp
  have hfill:Instr.fill (fun i=>some (i*it.size,it.size)) ((Array.range (len*it.size)).map (zv.cells[· % zv.cells.size]!)) (ps.toArray.map fun (i,x)=>(i,a.eval x)).toList=some vs.toArray:=by
   have jd:(Array.range (len*it.size)).map (zs.toArray[· % zs.toArray.size]!)=base.toArray:=by rw [← hb,← Array.toList_inj];simp
   rw [e1,eb,jd,← hf.fill];refine yLW _ _ fun x hx=>?_;have:=List.all_eq_true.1 bk x hx;simp only [decide_eq_true_eq] at this;rw [List.getElem?_toArray,this]
  have hr:=run_buildSlice (P:=P) w t e len (ps.toArray.map fun (i,x)=>(i,a.eval x)) vs.toArray it zv hu.h hq dN zO zO hfill;show uponP P o a _ ((execOp a.eval o).run P w);have aN:(execOp a.eval o).run P w=.ok (.value (.slice (some ⟨w.heap.size,0,none⟩) len len)) (w.alloc (.cells vs.toArray e)):=by simp only [execOp,ho,Sem.run_bind,Sem.run_pure,hr,Result.andThen_ok]
  rw [aN];have:=(h w.heap.size).go _ _ (p.put (d:=some d) hn _) s.new;rw [← hd] at this;exact this
theorem EncOk.setF (K:EncOk enc sz):∀ (l:List α) (i:Nat) (a a':α) (j:Nat) (v:Value),l[i]? = some a→j<sz→enc a'=(enc a).set j v→(l.flatMap enc).set (i*sz+j) v=(l.set i a').flatMap enc
 |[],_,_,_,_,_,h,_,_=>by simp at h
 |c::l,0,a,a',j,v,h,hj,he=>by simp only [List.getElem?_cons_zero,Option.some.injEq] at h;subst h;simp only [zLr,List.set_cons_zero,Nat.zero_mul,zLq];rw [List.set_append_left _ _ (by rw [K.len];exact hj),he]
 |c::l,i+1,a,a',j,v,h,hj,he=>by simp only [List.getElem?_cons_succ] at h;have ih:=K.setF l i a a' j v h hj he;have hc:=K.len c;simp only [zLr,List.set_cons_succ];rw [← ih,List.set_append_right _ _ (by rw [hc,Nat.add_mul];omega),hc];congr 2;rw [Nat.add_mul];omega
theorem xAn {xs:List Value} {o:Nat} {v:Value} (h:o<xs.length):lay xs o [v]=xs.set o v:=by unfold lay;rw [List.set_eq_take_append_cons_drop,if_pos h];rfl
theorem yP1 {g m c i j:Nat} {l:List α} {a a':α} {v:Value} (K:EncOk enc sz) (hx:Env.ev E x=some (.pointer (some ⟨g,off,none⟩))) (hy:Env.ev E y=some v) [hi:SzIs P t 1] (hs:Sel (lsP enc e sz (.slice (zq g) m c) l) H R) (hm:m=l.length) (ho:off=i*sz+j) (ha:l[i]? = some a) (hj:j<sz) (he:enc a'=(enc a).set j v) (hv:CellsOf v [v]) (h1:Ones [v]) (h:KJ W n k E (lsP enc e sz (.slice (zq g) m c) (l.set i a')::R)):KJ W n (.oper P (.store t x y) none k) E H:=by
 subst hm ho;have hl:=(zLc.1 ha).1;have ak:i*sz+j<(l.flatMap enc).length:=by rw [K.flat];have:(i+1)*sz≤l.length*sz:=zLt _ hl;rw [Nat.add_mul] at this;omega
 refine yFs (hi:=hi) (vs:=[v]) hx hy hs hv rfl h1 zO ?_;rw [xAn ak,K.setF l i a a' j v ha hj he];unfold lsP at h;rw [List.length_set] at h;exact h
theorem Lv.cells {g:Nat} {cs:List Value} {l:List α} (hc:l.flatMap enc=cs):Lv W enc sz (yAj g cs T) (zq g) l:=
 ⟨fun w H R hs q _=>⟨g,0,rfl,fun j v hj=>by subst hc;rw [(q.blk hs).2.cell,zLq];exact hj⟩⟩
end
section
variable {P:Program} {W:World} {n d:Nat} {E:Env} {H R:List SP} {k:KK} {t e:TypeId} {x y:Operand} {α:Type} {enc:α→List Value} {sz:Nat}
theorem EncOk.take_flat (K:EncOk enc sz) (l:List α) (i:Nat) (hi:i≤l.length):(l.flatMap enc).take (i*sz)=(l.take i).flatMap enc:=by
 have e:l.flatMap enc=(l.take i).flatMap enc++(l.drop i).flatMap enc:=by rw [← List.flatMap_append,zLu]
 have hl:((l.take i).flatMap enc).length=i*sz:=by rw [K.flat,zLg,Nat.min_eq_left hi]
 rw [e,List.take_left' hl]
theorem yVd {g i c m c2:Nat} {l:List α} (K:EncOk enc sz) (hx:Env.ev E x=some (.slice (zq g) i c)) (hy:Env.ev E y=some (.slice (some (yLM g 0 (i+1) c sz)) m c2)) (hm:m=l.length-(i+1)) [hu:UIs P t (.slice e)] [hs:SzIs P e sz] (ap:Sel (lsP enc e sz (.slice (zq g) l.length c) l) H R) (hi:i<l.length) (hc:l.length≤c) (hn:Nat.blt d n=true) (h:KJ W n k ((d,.slice (zq g) (l.eraseIdx i).length c)::E) (lsP enc e sz (.slice (zq g) (l.eraseIdx i).length c) (l.eraseIdx i)::R)):KJ W n (.oper P (.call { callee:=.builtin .append,args:=#[x,y],argTypes:=#[t,t] }) (some d) k) E H:=by
 subst hm;refine ⟨fun a w p s o ho hd=>?_⟩;have hs:=hs.h
 replace ap:=ap.app (dm a.defers)
 have aC:=s.row ap;cases hq:P.info? e with
 |none=>simp [hq] at hs
 |some it=>
  simp [hq] at hs;have ai:(l.eraseIdx i).length=i+(l.length-(i+1)):=by rw [List.length_eraseIdx,if_pos hi];omega
  have hflat:(l.eraseIdx i).flatMap enc=(l.take i).flatMap enc++(l.drop (i+1)).flatMap enc:=by rw [List.eraseIdx_eq_take_drop_succ,List.flatMap_append]
  rcases aC.2 with ⟨q,_⟩|⟨g',cap,aw,hv,hbg,hh,bI,gd,bu,bZ⟩
  ·cases q
  cases hv;have hpre:w.ownsRow W.heap.size e sz (.slice (zq g) i c) i ((l.take i).flatMap enc):=by refine ⟨by rw [K.flat,zLg,Nat.min_eq_left zO],.inr ⟨g,c,aw,rfl,hbg,hh,zO,gd,bu,?_⟩⟩;have h2:=congrArg (List.take (i*sz)) bZ;rw [K.take_flat l i zO,List.take_take,Nat.min_eq_left (zLt _ zO)] at h2;exact h2
  obtain ⟨w',av,aA,bh⟩:=run_append_fits (P:=P) w W.heap.size t o.type e it sz hu.h hq hs g i c _ hpre (yLM g 0 (i+1) c sz) (l.length-(i+1)) c2 ((l.drop (i+1)).flatMap enc) (by rw [K.flat,zLf]) (fun j u hj=>by
   have hlt:i+1<l.length:=by
    rcases Nat.lt_or_ge (i+1) l.length with h|h
    ·exact h
    ·rw [zLl h] at hj;simp at hj
   have:=aC.cells (g:=g) rfl _ u (K.drop_at zO hj);unfold yLM;rw [if_neg zO,Addr.add_mid];rw [Addr.add_mid] at this
   rwa [zLq] at this ⊢) (K.all _).all zO
  rw [← ai,← hflat] at aA;rw [← ai] at av;show uponP P o a _ ((execOp a.eval o).run P w);have aN:(execOp a.eval o).run P w=.ok (.value (.slice (zq g) (l.eraseIdx i).length c)) w':=by simp only [execOp,ho,resolve,invoke,builtin,Sem.run_bind,Sem.run_pure,Result.andThen_ok,List.map_toArray,List.map_cons,List.map_nil,p.ev hx,p.ev hy,av]
  rw [aN];have st:St W (lsP enc e sz (.slice (zq g) (l.eraseIdx i).length c) (l.eraseIdx i)::(R++dm a.defers)) w':=by
   obtain ⟨g1,g2,dj,hA,hH,l1,l2⟩:=(show St W ([lsP enc e sz (.slice (zq g) l.length c) l]++(R++dm a.defers)) w from s.perm ap.perm).split;have yDw:∃ o,g1 g=some o:=by
    obtain ⟨ha,_,_,le,_,⟨_,hd⟩,_⟩:=hA;rcases hd with ⟨aR,_⟩|⟨g'',je,cur',aR,hh0,_⟩
    ·cases aR
    ·cases aR;exact ⟨_,le _ _ hh0⟩
   rcases aA.2 with ⟨q,_⟩|⟨g',cap,cur',hv,fD,hh',hrest⟩
   ·cases q
   ·cases hv;refine St.join (B:=[lsP enc e sz (.slice (zq g) (l.eraseIdx i).length c) (l.eraseIdx i)]) (g:=Hl.one g (.cells cur' e (0,0))) s.below dj hH l1 l2 (yBP ⟨aA.1,.inr ⟨g,c,cur',rfl,Hl.one_self _ _,hrest⟩⟩) bh.os bh.tape bh.output bh.size ?_ ?_ ?_
    ·intro kk o q;obtain ⟨rfl,rfl⟩:=Hl.one_some q;exact hh'
    ·intro kk o q;obtain ⟨rfl,rfl⟩:=Hl.one_some q;exact .inl yDw
    ·intro kk hk hn;refine bh.block kk hk (fun e=>?_);cases e;obtain ⟨o,ho⟩:=yDw;rw [hn] at ho;cases ho
  have:=h.go _ w' (p.put (d:=some d) hn _) st;rw [← hd] at this;exact this
end
section
variable {P:Program} {W:World} {n d:Nat} {E:Env} {H H' R:List SP} {k:KK} {t u e:TypeId} {x y z:Operand} {α:Type} {enc:α→List Value} {sz:Nat}
structure SlOk (a:Option Addr) (c n:Nat):Prop where
 nil:a=none→c=0
 le:n≤c
theorem SlOk.zero:SlOk none 0 0:=⟨fun _=>rfl,Nat.le_refl _⟩
theorem SlOk.some {g:Addr} {c n:Nat} (h:n≤c):SlOk (some g) c n:=⟨fun e=>(by cases e),h⟩
end
section
open Go Go.RowKit Go.ChangeShapes Go.WideShapes Go.Deep
theorem yGS:prog.cellsOf 9=1:=zK
theorem ySz {n:Int} (h:(Lit.int .i64 n).wf=true):-9223372036854775808≤n∧n≤9223372036854775807:=by have h':(decide (-9223372036854775808≤n) && decide (n≤9223372036854775807))=true:=h;simpa only [zLw,decide_eq_true_eq] using h'
end
instance xCz:StIs prog 64:=⟨zK,zK⟩
instance xDa:StIs prog 58:=⟨zK,zK⟩
theorem yVe (x y:zB × zB) {fs:Array Field} (hu:prog.underlying 64=some (.struct fs)):EqF prog (rC x) (rC y) fs.toList (decide (x=y)):=by
 have e:=underlying64.symm.trans hu;simp only [Option.some.injEq,TypeDesc.struct.injEq] at e;subst e;have e2:decide (x=y)=(decide (x.1=y.1) && (decide (x.2=y.2) && true)):=by rw [Bool.eq_iff_iff];cases x;cases y;simp
 rw [e2];refine EqF.cons rfl inferInstance rfl rfl ?_ (EqF.cons rfl inferInstance rfl rfl ?_ EqF.nil);all_goals (unfold yKq;simp)
theorem yXE (x y:BOp) {fs:Array Field} (hu:prog.underlying 58=some (.struct fs)):EqF prog (opC x) (opC y) fs.toList (decide (x=y)):=by
 have e:=underlying58.symm.trans hu;simp only [Option.some.injEq,TypeDesc.struct.injEq] at e;subst e;have e2:decide (x=y)=(decide (x.del=y.del) && (decide (x.key=y.key) && (decide (x.val=y.val) && true))):=by rw [Bool.eq_iff_iff];cases x;cases y;simp
 rw [e2];refine EqF.cons rfl inferInstance rfl rfl ?_ (EqF.cons rfl inferInstance rfl rfl ?_ (EqF.cons rfl inferInstance rfl rfl ?_ EqF.nil));all_goals (unfold yKq;simp)
end Go.Proofs.YtoipmnikdiogcaaGreatDoor
