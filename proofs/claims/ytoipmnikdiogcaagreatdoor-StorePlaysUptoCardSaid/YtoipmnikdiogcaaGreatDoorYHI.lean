/-
  StX1, StQ1, StQ2, StQ3.
-/
import Derived.Test.YtoipmnikdiogcaaGreatDoorYES
set_option maxHeartbeats 64000000
namespace Go.Proofs.YtoipmnikdiogcaaGreatDoor
open Go Go.RowKit
open Go.Proofs.Tryz
abbrev yYW:Pl:=(po [0,1,2,3,4,5,6,7,8] (.ef 9 [4,3,2,1,0] (.op 10 (.op 11 .nil))))
abbrev yYX:Pl:=(po [0,1,2,3,4,5,6,7,8,9,10,11,12,13,14,15,16,17,18,19] (.ef 20 [] (po [21,22,23,24,25,26,27,28] (.ef 29 [27,26,25,24,23] (.ef 30 [] (.op 31 (.op 32 .nil)))))))
abbrev yYY:Pl:=(po [0,1,2,3,4,5,6,7,8,9,10,11,12,13,14] (.ef 15 [] (po [16,17,18,19,20] .nil)))
section
variable {W:World} {F:Nat→Addr} {N:List Nd} {a:Option Addr} {r:Rows} {q s d n:Nat} {b:Int} {D:Dsk}
theorem yOo (hE:ErrsOn L8 W F) (hN:NibAt W) (h1:64≤n) (h2:n≤65536) (v:Nat) (hv:v+1≤1099511627776) (lg:Option Addr) (life:Int) (dead:Bool) (hT:TbOk N a r) (hn:D.n=n) (hr:(yAk r).length≤234*yAA n) (aS:D.und.length+65536<1073741823) (hA:(yBF D (yAG n (v+1)) (yAA n) ((v+1:Nat):Int) (yAk r)).1=12) :Ct prog W 51 [zPp s] [stP s d q n (v:Nat) lg life dead,DiskP d D,tbP q a b,arP N] (fun _:Unit=>yAy F 12) (fun _=>[stP s d q n (v:Nat) lg life true,DiskP d (yDt D n (v+1) r),tbP q a b,arP N]):=by
 have dV:W.cell? ⟨2,0,none⟩=some (yAy F 12):=hE.at_ 12 zX;have ao:=yH7 (F:=F) (e:=12) zO;obtain ⟨f1,f2,f3,f4⟩:=yBf h1 (v+1);have hA2:=yBr h2;have cs:=yHr (W:=W) (p:=q) (b:=b) hT zO;have cA:CtU prog W 103 [zPp d,zi (yAG n (v+1):Nat),zi (yAA n:Nat),.int .u64 ((v+1:Nat):Int),strV (yAk r)] [DiskP d D] (yAy F 12) [DiskP d (yDt D n (v+1) r)]:=by have:=yKa (W:=W) (p:=d) (D:=D) hE hN zO aS (yAG n (v+1):Nat) (yAA n:Nat) ((v+1:Nat):Int) (yAk r);rw [hA] at this;exact this
 obtain ⟨D1,aL⟩:∃ D1,D1=yDt D n (v+1) r:=⟨_,rfl⟩;rw [← aL] at cA ⊢;clear hA aL;have bj:CtU prog W 45 [zPp d] [DiskP d D] (zi (n:Nat)) [DiskP d D]:=by have:=yBM (W:=W) (p:=d) (D:=D);rw [hn] at this;exact this
 obtain ⟨L,hL⟩:∃ L,L=yAk r:=⟨_,rfl⟩;rw [← hL] at hr cs cA;clear hL;have cn:=yKt (W:=W);have cu1:∀ g,CtU prog W 102 [zPp g,.int .u64 (n:Nat)] [WrP g []] (.tuple #[]) [WrP g (vu n)]:=fun g=>by have:=yD8 (W:=W) (p:=g) (l:=[]) n zO zW;rw [List.nil_append] at this;exact this
 have jR:=yCe n;have jN:=yCG n;have kF:∀ g,CtU prog W 102 [zPp g,.int .u64 (L.length:Nat)] [WrP g (vu n)] (.tuple #[]) [WrP g (yBJ n L.length)]:=fun g=>yD8 (W:=W) (p:=g) (l:=vu n) L.length zO zO;have co:∀ g,CtU prog W 105 [zPp g] [WrP g (yBJ n L.length)] (strV (yBJ n L.length)) [WrP g (yBJ n L.length)]:=fun g=>yKw (W:=W) (by unfold yBJ;rw [zLa];omega);have w1:IntKind.u64.wrap ((n:Nat):Int)=((n:Nat):Int):=yAx _ zO;have w2:IntKind.u64.wrap ((L.length:Nat):Int)=((L.length:Nat):Int):=yAx _ zO;have w3:IntKind.u64.wrap ((v+1:Nat):Int)=((v+1:Nat):Int):=yAx _ zO;have q0:decide ((1099511627776:Int)≤(v:Nat))=false:=zZ zO;have cX:∀ m:Nat,((v+1:Nat):Int) % 2=(m:Nat)→(stC d q n (v:Nat) lg life dead)[0+1+0+((m:Nat):Int).toNat*1]? = some (zi (yAG n (v+1):Nat)):=fun m hm=>by
  unfold yAG;rcases (show m=0∨m=1 by omega) with rfl|rfl
  ·rw [if_pos zO];rfl
  ·rw [if_neg zO];rfl
 obtain ⟨m,hm⟩:∃ m:Nat,((v+1:Nat):Int) % 2=(m:Nat):=⟨(v+1) % 2,zO⟩;have hx:=cX m hm;have dy:m<2:=zO;clear cX;refine zE func51 ntmps51 fun R=>?_;repeat' (first|(refine yAb ?_;first|refine xca (co _) fun _=>?_|refine xca (kF _) fun _=>?_|refine xca (cu1 _) fun _=>?_|refine xca cn fun pw=>?_)|refine zad (v+1) ?_|refine xqa ?_|refine xsf ?_ ?_|refine xdt [(3,yYW),(7,yYX),(10,yYY)] ?_|exact xdn ()|apply zN|intro _)
theorem yOp (hE:ErrsOn L8 W F) (hN:NibAt W) (h1:64≤n) (h2:n≤65536) (v:Nat) (hv:v+1≤1099511627776) (lg:Option Addr) (life:Int) (dead:Bool) (hT:TbOk N a r) (hn:D.n=n) (hr:(yAk r).length≤234*yAA n) (aS:D.und.length+65536<1073741823) (hA:(yBF D (yAG n (v+1)) (yAA n) ((v+1:Nat):Int) (yAk r)).1=0) (db:(yDt D n (v+1) r).und=[]) (cO:(yDt D n (v+1) r).n=n) (hS:yB1 (yDt D n (v+1) r) 0 ((v+1:Nat):Int) (yBJ n (yAk r).length)=12) :Ct prog W 51 [zPp s] [stP s d q n (v:Nat) lg life dead,DiskP d D,tbP q a b,arP N] (fun _:Unit=>yAy F 12) (fun _=>[stP s d q n (v:Nat) lg life true,DiskP d (yFG D n (v+1) r),tbP q a b,arP N]):=by
 have dV:W.cell? ⟨2,0,none⟩=some (yAy F 12):=hE.at_ 12 zX;have ao:=yH7 (F:=F) (e:=12) zO;obtain ⟨f1,f2,f3,f4⟩:=yBf h1 (v+1);have hA2:=yBr h2;have cs:=yHr (W:=W) (p:=q) (b:=b) hT zO;have cA:CtU prog W 103 [zPp d,zi (yAG n (v+1):Nat),zi (yAA n:Nat),.int .u64 ((v+1:Nat):Int),strV (yAk r)] [DiskP d D] .nilIface [DiskP d (yDt D n (v+1) r)]:=by have:=yKa (W:=W) (p:=d) (D:=D) hE hN zO aS (yAG n (v+1):Nat) (yAA n:Nat) ((v+1:Nat):Int) (yAk r);rw [hA] at this;exact this
 have cW:CtU prog W 104 [zPp d,zi 0,zi ((v+1:Nat):Int),strV (yBJ n (yAk r).length)] [DiskP d (yDt D n (v+1) r)] (yAy F 12) [DiskP d (yFG D n (v+1) r)]:=by have:=yNU (W:=W) (p:=d) (D:=yDt D n (v+1) r) hE hN zO (by rw [db];simp) 0 ((v+1:Nat):Int) (yBJ n (yAk r).length);rw [hS] at this;exact this
 obtain ⟨D1,aL⟩:∃ D1,D1=yDt D n (v+1) r:=⟨_,rfl⟩;obtain ⟨D2,aF⟩:∃ D2,D2=yFG D n (v+1) r:=⟨_,rfl⟩;rw [← aL,← aF] at cW;rw [← aL] at cA;rw [← aF];clear hA hS aL aF db cO;have bj:CtU prog W 45 [zPp d] [DiskP d D] (zi (n:Nat)) [DiskP d D]:=by have:=yBM (W:=W) (p:=d) (D:=D);rw [hn] at this;exact this
 obtain ⟨L,hL⟩:∃ L,L=yAk r:=⟨_,rfl⟩;rw [← hL] at hr cs cA cW;clear hL;have cn:=yKt (W:=W);have cu1:∀ g,CtU prog W 102 [zPp g,.int .u64 (n:Nat)] [WrP g []] (.tuple #[]) [WrP g (vu n)]:=fun g=>by have:=yD8 (W:=W) (p:=g) (l:=[]) n zO zW;rw [List.nil_append] at this;exact this
 have jR:=yCe n;have jN:=yCG n;have kF:∀ g,CtU prog W 102 [zPp g,.int .u64 (L.length:Nat)] [WrP g (vu n)] (.tuple #[]) [WrP g (yBJ n L.length)]:=fun g=>yD8 (W:=W) (p:=g) (l:=vu n) L.length zO zO;have co:∀ g,CtU prog W 105 [zPp g] [WrP g (yBJ n L.length)] (strV (yBJ n L.length)) [WrP g (yBJ n L.length)]:=fun g=>yKw (W:=W) (by unfold yBJ;rw [zLa];omega);have w1:IntKind.u64.wrap ((n:Nat):Int)=((n:Nat):Int):=yAx _ zO;have w2:IntKind.u64.wrap ((L.length:Nat):Int)=((L.length:Nat):Int):=yAx _ zO;have w3:IntKind.u64.wrap ((v+1:Nat):Int)=((v+1:Nat):Int):=yAx _ zO;have q0:decide ((1099511627776:Int)≤(v:Nat))=false:=zZ zO;have cX:∀ m:Nat,((v+1:Nat):Int) % 2=(m:Nat)→(stC d q n (v:Nat) lg life dead)[0+1+0+((m:Nat):Int).toNat*1]? = some (zi (yAG n (v+1):Nat)):=fun m hm=>by
  unfold yAG;rcases (show m=0∨m=1 by omega) with rfl|rfl
  ·rw [if_pos zO];rfl
  ·rw [if_neg zO];rfl
 obtain ⟨m,hm⟩:∃ m:Nat,((v+1:Nat):Int) % 2=(m:Nat):=⟨(v+1) % 2,zO⟩;have hx:=cX m hm;have dy:m<2:=zO;clear cX;refine zE func51 ntmps51 fun R=>?_;repeat' (first|(refine yAb ?_;first|refine xca (co _) fun _=>?_|refine xca (kF _) fun _=>?_|refine xca (cu1 _) fun _=>?_|refine xca cn fun pw=>?_)|refine zad (v+1) ?_|refine xqa ?_|refine xsf ?_ ?_|refine xdt [(3,yYW),(7,yYX),(10,yYY)] ?_|exact xdn ()|apply zN|intro _)
end
theorem xBP (aa:Int) (at_:Nat):∀ (f:Nat) (D:Dsk) (i:Nat) (v:zB),D.off=false→D.ok→v.length≤234*f→at_+i+yHw v.length≤D.n→((yDv at_ aa f D i v).1=12→(yDv at_ aa f D i v).2.off=true)∧(yDv at_ aa f D i v).2.life=D.life:=by
 have dH:∀ (f:Nat) (D:Dsk) (i:Nat),D.off=false→((yDv at_ aa f D i []).1=12→(yDv at_ aa f D i []).2.off=true)∧(yDv at_ aa f D i []).2.life=D.life:=by intro f D i ho;rw [yJA];exact yUG ho
 intro f
 induction f with
 |zero=>
  intro D i v ho hk hv hn;have:v=[]:=List.length_eq_zero_iff.1 zO;subst this;exact dH 0 D i ho
 |succ f ih=>
  intro D i v ho hk hv hn;by_cases h0:v=[]
  ·subst h0;exact dH (f+1) D i ho
  have hp:=zLv.2 h0;have iH:at_+i<D.n∧at_+(i+1)+yHw (v.drop 234).length≤D.n:=by rw [zLf];unfold yHw at hn ⊢;omega
  have hS:=yBk aa (v.take 234) (by rw [zLg];omega);obtain ⟨w1,w2,w3,w4,w5⟩:=yIG ho (at_+i) iH.1 _ hS;obtain ⟨x1,x2⟩:=yYN ho (at_+i) iH.1 _ hS;have am:=Dsk.writeD_ok hk ((at_+i:Nat):Int) (yAF aa (v.take 234))
  have hu:yDv at_ aa (f+1) D i v=if D.writeE ((at_+i:Nat):Int) (yAF aa (v.take 234))≠0 then (D.writeE ((at_+i:Nat):Int) (yAF aa (v.take 234)),D.writeD ((at_+i:Nat):Int) (yAF aa (v.take 234)))
   else yDv at_ aa f (D.writeD ((at_+i:Nat):Int) (yAF aa (v.take 234))) ((i+1:Nat):Int) (v.drop 234):=by
   show (if v=[] then _ else _)=_;rw [if_neg h0];rfl
  rw [hu];clear hu;rcases w1 with ⟨a,b⟩|a
  ·rw [if_neg (by rw [a];simp)];obtain ⟨r1,r2⟩:=ih (D.writeD ((at_+i:Nat):Int) (yAF aa (v.take 234))) (i+1) (v.drop 234) b am (by rw [zLf];omega) (by rw [w4];exact iH.2);exact ⟨r1,by rw [r2,x2]⟩
  ·rw [if_pos (by rw [a];simp)];exact ⟨fun _=>x1 a,x2⟩
theorem yKP (D:Dsk) (kept:List Bool) (torn bytes:Int) (i:Nat):(D.crash kept torn bytes).sec i=cut (yBD D.img (yUw (done kept torn bytes) D.und 0)) (i*256) 256:=by unfold Dsk.sec;show cut (yB7 _ _ _ _ _) _ _=_;rw [ySc]
theorem yIf {D:Dsk} (h:Still D) (a n s:Nat) (v:zB) (ha:a+n≤D.n) (hs:1≤s) (hv:v.length≤234*n) (hn:n≤65536) :(((yBF D a n s v).1=0∧Still (yBF D a n s v).2∧ (∀ k,234*k<v.length→(yBF D a n s v).2.sec (a+k)=yAF s ((v.drop (234*k)).take 234))∧∀ j,j<D.n→(j<a∨a+n≤j)→(yBF D a n s v).2.sec j=D.sec j)∨ ((yBF D a n s v).1=12∧(yBF D a n s v).2.off=true∧∀ kept torn bytes j,j<D.n→(j<a∨a+n≤j)→((yBF D a n s v).2.crash kept torn bytes).sec j=D.sec j))∧ (yBF D a n s v).2.n=D.n∧(yBF D a n s v).2.ok∧(yBF D a n s v).2.life=D.life∧(yBF D a n s v).2.und.length≤n:=by
 have kD:yHw v.length≤n:=by unfold yHw;omega
 have ai:=h.ok.len;have e1:yBF D a n s v=yDv ((a:Nat):Int) (s:Nat) v.length D ((0:Nat):Int) v:=by
  unfold yBF;have hm:D.mayB a n=true:=by unfold Dsk.mayB;exact zY zO
  have ah:yCI n=234*n:=by unfold yCI;omega
  rw [if_neg (by rw [hm];simp),if_neg zO,if_neg (by rw [ah];omega),if_neg (by rw [h.on];simp)];rfl
 obtain ⟨w1,w2,w3,-⟩:=yUx (s:Nat) a v.length D 0 v h.on h.ok zO zO;obtain ⟨x1,x2⟩:=xBP (s:Nat) a v.length D 0 v h.on h.ok zO zO;rw [← e1] at w1 w2 w3 x1 x2;clear e1;obtain ⟨r,hr⟩:∃ r,r=yBF D a n s v:=⟨_,rfl⟩;rw [← hr] at w1 w2 w3 x1 x2 ⊢;clear hr;simp only [h.und,List.nil_append,zLz] at w1;have dh:=yUv (s:Nat) v.length a v;have bk:=ySf (s:Nat) v.length a v;have eQ:∀ k,((v.drop (234*k)).take 234).length≤234:=fun k=>by rw [zLg];omega
 have dw:∀ j,j<D.n→(D.sec j).length=256:=fun j hj=>yBY _ _ _ zO;refine ⟨?_,w2,w3,x2,?_⟩
 ·rcases w1 with ⟨q1,q2,q3,q4⟩|⟨q1,q2,m,q3⟩
  ·left;have jj:r.2.img=yBD D.img (yUw (fun _=>256) ((pcs (s:Nat) v.length a v).take (pcs (s:Nat) v.length a v).length) 0):=by rw [q4,zLi (Nat.le_refl _),yN1 _ (fun _=>rfl) _ _ (fun x hx=>(dh x hx).2.2)]
   refine ⟨q1,⟨q2,q3,w3⟩,fun k hk=>?_,fun j hj hout=>?_⟩
   ·obtain ⟨d,a1,a2,a3⟩:=yQI (s:Nat) D.n (fun _=>256) (fun _=>Nat.le_refl _) v.length a (pcs (s:Nat) v.length a v).length 0 v D.img ai zO k hk;have hd:=a3 (fun _=>rfl) zO (Nat.le_refl _);have ij:a+k<D.n:=zO;show cut r.2.img _ _=_;rw [jj,a2,hd];exact yKf _ _ (yBk _ _ (eQ k)) (dw _ ij)
   ·show cut r.2.img _ _=_;rw [q4];refine yDF D.n j _ _ ai fun x hx=>?_;obtain ⟨c1,c2,c3⟩:=dh x hx;exact ⟨zO,zO,zO⟩
  ·right;refine ⟨q1,x1 q1,fun kept torn bytes j hj hout=>?_⟩;rw [yKP,q2,q3];refine yDF D.n j _ _ ai fun x hx=>?_;obtain ⟨y,hy,b1,b2⟩:=yPz _ _ _ _ hx;obtain ⟨c1,c2,c3⟩:=dh y (List.mem_of_mem_take hy);exact ⟨zO,zO,zO⟩
 ·rcases w1 with ⟨_,_,q,_⟩|⟨_,_,m,q⟩
  ·rw [q];simp
  ·rw [q,zLg];omega
theorem xAj {D:Dsk} (h:D.ok) (a v:Int) (s:zB):(yBB D a v s).ok:=by
 unfold yBB yDq;split
 ·exact h
 split
 ·exact h
 split
 ·exact Dsk.writeD_ok h _ _
 ·exact Dsk.flushD_ok (Dsk.writeD_ok h _ _)
theorem yKQ {D:Dsk} (h:Still D) (a v:Nat) (s:zB) (ha:a+2≤D.n) (hv:1≤v) (fA:v≤1099511627776) (hs:s.length≤234) :((yB1 D a v s=0∧Still (yBB D a v s)∧(yBB D a v s).sec (a+v % 2)=yAF v s∧∀ j,j<D.n→j≠a+v % 2→(yBB D a v s).sec j=D.sec j)∨ (yB1 D a v s=12∧(yBB D a v s).off=true∧∀ kept torn bytes,(∃ d,d≤256∧((yBB D a v s).crash kept torn bytes).sec (a+v % 2)=yLx (yAF v s) (D.sec (a+v % 2)) d)∧∀ j,j<D.n→j≠a+v % 2→((yBB D a v s).crash kept torn bytes).sec j=D.sec j))∧ (yBB D a v s).n=D.n∧(yBB D a v s).ok∧(yBB D a v s).life=D.life∧(yBB D a v s).und.length≤1:=by
 obtain ⟨t1,t2,t3⟩:=ySb h a v s ha hv fA hs;have am:=xAj h.ok a v s;have ai:=h.ok.len;have hS:=yBk (v:Int) s hs;have hb:(a+v % 2)*256+256≤D.img.length:=zO;have gX:∀ D':Dsk,D'.img=D.img→D'.und=[(a+v % 2,yAF v s)]→∀ kept torn bytes,(∃ d,d≤256∧(D'.crash kept torn bytes).sec (a+v % 2)=yLx (yAF v s) (D.sec (a+v % 2)) d)∧∀ j,j<D.n→j≠a+v % 2→(D'.crash kept torn bytes).sec j=D.sec j:=by
  intro D' e1 e2 kept torn bytes;have hd:=yW9 kept torn bytes 0;refine ⟨⟨done kept torn bytes 0,hd,?_⟩,fun j hj ao=>?_⟩
  ·rw [yKP,e1,e2];show cut (lay D.img ((a+v % 2)*256) ((yAF v s).take (done kept torn bytes 0))) _ _=_;exact yF9 _ _ _ _ hS hd zO
  ·rw [yKP,e1,e2];refine yDF D.n j _ _ ai fun x hx=>?_;obtain ⟨y,hy,b1,b2⟩:=yPz _ _ _ _ hx;rw [List.mem_singleton] at hy;subst hy;dsimp only at b1 b2;exact ⟨zO,zO,zO⟩
 by_cases h0:D.armed=0
 ·obtain ⟨e,hD⟩:=t1 h0;rw [hD] at am;rw [e,hD];exact ⟨.inr ⟨rfl,rfl,gX _ rfl rfl⟩,rfl,am,rfl,by simp⟩
 by_cases h1:D.armed=1
 ·obtain ⟨e,hD⟩:=t2 h1;rw [hD] at am;rw [e,hD];exact ⟨.inr ⟨rfl,rfl,gX _ rfl rfl⟩,rfl,am,rfl,by simp⟩
 obtain ⟨e,r,hD⟩:=t3 h0 h1;rw [hD] at am;rw [e,hD];refine ⟨.inl ⟨rfl,⟨h.on,h.und,am⟩,?_,fun j hj ao=>?_⟩,rfl,am,rfl,by show D.und.length≤1;rw [h.und];simp⟩
 ·show cut (lay D.img ((a+v % 2)*256) (yAF v s)) _ _=_;have:=yF9 D.img (yAF v s) ((a+v % 2)*256) 256 hS (Nat.le_refl _) hb;rw [zLi zO] at this;rw [this];exact yKf _ _ hS (yBY _ _ _ hb)
 ·have e2:lay D.img ((a+v % 2)*256) (yAF v s)=yBD D.img [(a+v % 2,yAF v s)]:=rfl;show cut (lay D.img ((a+v % 2)*256) (yAF v s)) _ _=_;rw [e2];refine yDF D.n j _ _ ai fun x hx=>?_;rw [List.mem_singleton] at hx;subst hx;exact ⟨fun q=>ao q.symm,by dsimp only;omega,by dsimp only;omega⟩
def xAk (D:Dsk) (n:Nat) (r:Rows):Nat:=if (yBF D (yAG n 1) (yAA n) ((1:Nat):Int) (yAk r)).1≠0 then (yBF D (yAG n 1) (yAA n) ((1:Nat):Int) (yAk r)).1 else yB1 (yDt D n 1 r) 0 ((1:Nat):Int) (yBJ n (yAk r).length)
def xAl (D:Dsk) (n:Nat) (r:Rows):Dsk:=if (yBF D (yAG n 1) (yAA n) ((1:Nat):Int) (yAk r)).1≠0 then yDt D n 1 r else yFG D n 1 r
def yDW (D:Dsk) (n v:Nat) (r:Rows):Nat:=if (yBF D (yAG n (v+1)) (yAA n) ((v+1:Nat):Int) (yAk r)).1≠0 then (yBF D (yAG n (v+1)) (yAA n) ((v+1:Nat):Int) (yAk r)).1 else yB1 (yDt D n (v+1) r) 0 ((v+1:Nat):Int) (yBJ n (yAk r).length)
def yCk (D:Dsk) (n v:Nat) (r:Rows):Dsk:=if (yBF D (yAG n (v+1)) (yAA n) ((v+1:Nat):Int) (yAk r)).1≠0 then yDt D n (v+1) r else yFG D n (v+1) r
def xDj (D:Dsk) (n v used:Nat) (rc:zB):Nat:=if (yBU (yAN n:Nat) v used (yBw rc) 0 D).1=false then 12 else (yBU (yAN n:Nat) v used (yBw rc) 0 D).2.flushE
def xC9 (D:Dsk) (n v used:Nat) (rc:zB):Dsk:=if (yBU (yAN n:Nat) v used (yBw rc) 0 D).1=false then (yBU (yAN n:Nat) v used (yBw rc) 0 D).2 else (yBU (yAN n:Nat) v used (yBw rc) 0 D).2.flushD
end Go.Proofs.YtoipmnikdiogcaaGreatDoor
