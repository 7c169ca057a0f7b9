/-
  TbW7, TbW8, StP, StP2, StW1, TxW1, StW2, TxW2, TxW3, ErL, StW3, StW4.
-/
import Derived.Test.YtoipmnikdiogcaaGreatDoorYDK
set_option maxHeartbeats 64000000
namespace Go.Proofs.YtoipmnikdiogcaaGreatDoor
open Go Go.RowKit
open Go.Proofs.Tryz
abbrev yYR:Pl:=(po [0,1,2,4,5,7,8,11,12] (.ef 3 [12,11,8,7,5,4,0] (.op 6 (.ef 9 [6,12,11,5,4,0] (po [10,13,14] (.ef 15 [] .nil))))))
abbrev xBG:Pl:=(po [0,1,2,3,4,5,6,7,8,9,10,11,12,13,14] (.ef 15 [] .nil))
abbrev yU5:Pl:=(.op 0 (.op 1 (.ef 2 [0] (.op 3 (.ef 4 [] .nil)))))
abbrev xBH:Pl:=(po [0,1,2,3,4,5,6,7,8] (.ef 9 [4,3,2,1,0] (.op 10 (.op 11 .nil))))
abbrev xBI:Pl:=(po [0,1,2,3,4,5,6,7,8,9,10,11,12,13,14,15,16,17,18,19] (.ef 20 [] (po [21,22,23,24,25,26,27,28] (.ef 29 [27,26,25,24,23] (.ef 30 [] (.op 31 (.op 32 .nil)))))))
abbrev xBJ:Pl:=(po [0,1,2,3,4,5,6,7,8,9,10,11,12,13,14] (.ef 15 [] (po [16,17,18,19,20] .nil)))
abbrev xBK:Pl:=(po [0,1,2] (.ef 3 [] .nil))
def TbOk (N:List Nd) (a:Option Addr) (r:Rows):Prop:=∃ t,TrAt N a t∧t.Ok∧t.rows=r∧RisR r
theorem TbOk.mono {N N':List Nd} {a:Option Addr} {r:Rows} (h:TbOk N a r) (hm:∀ x ∈ N,x ∈ N'):TbOk N' a r:=by obtain ⟨t,h1,h2,h3,h4⟩:=h;exact ⟨t,h1.mono hm,h2,h3,h4⟩
theorem TbOk.ris {N:List Nd} {a:Option Addr} {r:Rows} (h:TbOk N a r):RisR r:=by obtain ⟨t,-,-,-,h4⟩:=h;exact h4
theorem TbOk.nil (N:List Nd):TbOk N none []:=⟨.nil,rfl,trivial,rfl,List.Pairwise.nil⟩
abbrev TbQ (N:List Nd) (r:Rows):Type:={x:List Nd × Option Addr × Int//(∀ y ∈ N,y ∈ x.1)∧TbOk x.1 x.2.1 r}
abbrev tbP (p:Nat) (a:Option Addr) (b:Int):SP:=yAj p [.pointer a,zi b] 187
theorem yKB:∀ t:Tr,t.frm []=t.rows
 |.nil=>rfl
 |.node l k v r _ _=>by rw [yQ4 (by cases k <;> rfl),yKB l,yKB r];rfl
theorem yIU {W:World} {n:Nat} {k:KK} {E:Env} {H R:List SP} (hs:Sel (yGZ False) H R):KJ W n k E H:=⟨fun _ _ _ s=>(s.left.fact hs).elim⟩
section
variable {W:World} {N:List Nd} {a:Option Addr} {r:Rows} {p:Nat} {b:Int} {k v:zB}
theorem yPR:Ct prog W 87 [] [] (fun p:Nat=>(zPp p)) (fun p=>[tbP p none 0]):=by
 refine zE func87 ntmps87 fun R=>?_;repeat' (first|refine zbx fun g=>?_|refine xst ?_|refine xsf ?_ ?_|intro _)
 all_goals (exact xdn g)
theorem yZ2 (hT:TbOk N a r) (x:zB) :CtU prog W 63 [zPp p,strV x] [tbP p a b,arP N] (.tuple #[strV ((lk r x).getD []),.bool (lk r x).isSome]) [tbP p a b,arP N]:=by
 obtain ⟨t,h1,h2,rfl,h4⟩:=hT;have cg:=yPP (W:=W) h1 x;rw [Tr.get_rows h4] at cg;refine zE func63 ntmps63 fun R=>?_;repeat' (first|refine xst ?_|refine xsf ?_ ?_|exact xdn ()|intro _)
theorem yPS (hT:TbOk N a r):CtU prog W 113 [zPp p] [tbP p a b,arP N] (zi (r.length:Nat)) [tbP p a b,arP N]:=by obtain ⟨t,h1,h2,rfl,h4⟩:=hT;have cg:=yKz (W:=W) h1;rw [Tr.cnt_rows h2] at cg;refine zE func113 ntmps113 fun R=>?_;repeat' (first|refine xst ?_|refine xsf ?_ ?_|exact xdn ()|intro _)
theorem yPT (hT:TbOk N a r) (hl:r.length≤288230376151711744) :Ct prog W 111 [zPp p,strV k,strV v] [tbP p a b,arP N] (fun _:TbQ N (yHW r k v)=>.bool (lk r k).isSome) (fun x=>[tbP p x.1.2.1 x.1.2.2,arP x.1.1]):=by
 obtain ⟨t,h1,h2,rfl,h4⟩:=hT;have cg:=yPP (W:=W) h1 k;rw [Tr.get_rows h4] at cg;have cp:=yZZ (W:=W) k v t h1 h2 h4 (by rw [Tr.cnt_rows h2];exact hl);obtain ⟨q1,q2,-,-⟩:=Tr.put_ok h2 h4 k v;have q3:=yDb h4 k v;cases hk:lk t.rows k with
 |none=>
  rw [hk] at cg;refine zE func111 ntmps111 fun R=>?_;repeat' (first|refine xca cp fun x=>?_;obtain ⟨⟨N1,p1⟩,g1,t1⟩:=x;dsimp only at g1 t1 ⊢|refine xst ?_|refine xsf ?_ ?_|intro _)
  all_goals (exact xdn ⟨(N1,p1,_),g1,_,t1,q1,q2,q3⟩)
 |some old=>
  rw [hk] at cg;refine zE func111 ntmps111 fun R=>?_;repeat' (first|refine xca cp fun x=>?_;obtain ⟨⟨N1,p1⟩,g1,t1⟩:=x;dsimp only at g1 t1 ⊢|refine xst ?_|refine xsf ?_ ?_|intro _)
  all_goals (exact xdn ⟨(N1,p1,_),g1,_,t1,q1,q2,q3⟩)
theorem yZ3 (hT:TbOk N a r) (hl:r.length≤288230376151711744) :Ct prog W 110 [zPp p,strV k] [tbP p a b,arP N] (fun _:TbQ N (yHn r k)=>.bool (lk r k).isSome) (fun x=>[tbP p x.1.2.1 x.1.2.2,arP x.1.1]):=by
 obtain ⟨t,h1,h2,rfl,h4⟩:=hT;have cg:=yPP (W:=W) h1 k;rw [Tr.get_rows h4] at cg;have q3:=yMY h4 k;cases hk:lk t.rows k with
 |none=>
  rw [hk] at cg;have hm:=yDr hk;refine zE func110 ntmps110 fun R=>?_;repeat' (first|refine xst ?_|refine xsf ?_ ?_|intro _)
  all_goals (exact xdn ⟨(N,a,_),fun y hy=>hy,t,h1,h2,hm.symm,q3⟩)
 |some old=>
  rw [hk] at cg;have hs:(lk t.rows k).isSome=true:=by rw [hk];rfl
  have cp:=yU1 (W:=W) t k h1 h2 h4 (by rw [Tr.cnt_rows h2];exact hl) hs;obtain ⟨q1,q2,-,-⟩:=Tr.remove_ok h2 h4 k hs;refine zE func110 ntmps110 fun R=>?_;repeat' (first|refine xca cp fun x=>?_;obtain ⟨⟨N1,p1⟩,g1,t1⟩:=x;dsimp only at g1 t1 ⊢|refine xst ?_|refine xsf ?_ ?_|intro _)
  all_goals (exact xdn ⟨(N1,p1,_),g1,_,t1,q1,q2,q3⟩)
theorem yM6 (x:zB):Ct prog W 114 [zPp p,strV x] [tbP p a b] (fun x:Nat × Nat=>.func (.func 161) #[] #[.pointer (some ⟨x.1,0,none⟩),.pointer (some ⟨x.2,0,none⟩)]) (fun z=>[tbP p a b,yAj z.1 [.pointer a] 185,yAj z.2 [strV x] 9]):=by
 refine zE func114 ntmps114 fun R=>?_;repeat' (first|refine zal fun gr=>?_|refine zbx fun gl=>?_|refine yCL ?_;refine yAa (yCW rfl rfl) ?_|refine xst ?_|refine xsf ?_ ?_|intro _)
 all_goals (exact xdn (gr,gl))
theorem yXv (hT:TbOk N a r) (hl:r.length*32≤140737488355328) :Ct prog W 56 [zPp p] [tbP p a b,arP N] (fun x:Option Addr × Nat=>.slice x.1 r.length x.2) (fun x=>[tbP p a b,arP N,lsP rC 64 2 (.slice x.1 r.length x.2) r]):=by
 have cl:=yPS (W:=W) (p:=p) (b:=b) hT;have cf:=yM6 (W:=W) (p:=p) (a:=a) (b:=b) [];obtain ⟨t,h1,h2,ht,h4⟩:=hT;have hL:r=t.frm []:=by rw [yKB,ht]
 refine zE func56 ntmps56 fun R=>?_;repeat' (first|refine zal fun g3=>?_|refine xca cf fun z=>?_;obtain ⟨gr,gl⟩:=z|refine yGA ?_;refine yXs (m:=r.length) (bytes:=32) rfl rfl rfl zO zO rfl (fun gm cm=>?_)|refine xst ?_|refine xsf ?_ ?_|intro _)
 obtain ⟨F,hF⟩:∃ F:Nat→Option Addr × Nat→List SP,F=fun i x=>[yAj g3 [.slice x.1 (r.take i).length x.2] 61,lsP rC 64 2 (.slice x.1 (r.take i).length x.2) (r.take i)]:=⟨_,rfl⟩;have hFi:∀ i x,F i x=[yAj g3 [.slice x.1 (r.take i).length x.2] 61,lsP rC 64 2 (.slice x.1 (r.take i).length x.2) (r.take i)]:=fun i x=>by rw [hF]
 clear hF;refine KJ.packs (tag:=52) (key:=g3) (F:=F 0) (some ⟨gm,0,none⟩,cm) (by rw [hFi];exact xP) ?_;refine yGk (gr:=gr) (gl:=gl) (L:=r) rfl rfl h1 hL rfl zX (fun i=>yHl 52 g3 (F i)) (fun i=>yGZ False) .ret xP (fun l i s hs R'=>?_) ?_ (fun i hi=>?_)
 ·have hlt:=(zLc.1 hs).1;dsimp only [Env.ofPs];refine KJ.unpack_at (F:=F i) xS (fun x=>?_);rw [hFi];have em:r.take i++[s]=r.take (i+1):=by rw [List.take_add_one,hs];rfl
  have b1:((r.take i).length+1)*32≤140737488355328:=by rw [zLg];omega
  have b2:(r.take i).length+1≤9223372036854775807:=zO;repeat' (first|refine yJC ?_;refine yJD xS ?_|refine yAQ ?_;refine yBm (a:=s) yBp rfl rfl rfl xS xS b1 b2 rfl (fun g5 c5=>?_)|refine yAD ?_;refine yAK rfl xF (by rfl) zO rfl (fun gb=>?_)|refine xst ?_|refine xsf ?_ ?_|intro _)
  rw [em];refine KJ.packs (tag:=52) (key:=g3) (F:=F (i+1)) (some ⟨g5,0,none⟩,c5) (by rw [hFi];exact xP) ?_;exact yGM xS (xN)
 ·refine KJ.unpack_at (F:=F r.length) xS (fun x=>?_);rw [hFi,List.take_length];repeat' (first|refine xst ?_|refine xsf ?_ ?_|intro _)
  all_goals (exact xdn x)
 ·exact yIU xS
end
theorem ySu (r:Rows) (o:BOp):(yEI r o).length≤r.length+1:=by
 unfold yEI;split
 ·have:(yHn r o.key).length≤r.length:=List.length_filter_le _ _;omega
 ·exact yM4 _ _ _
theorem yCX:∀ (ops:List BOp) (r:Rows),(yAP r ops).length≤r.length+ops.length
 |[],r=>by simp [yAP]
 |o::ops,r=>by have h1:=yCX ops (yEI r o);have h2:=ySu r o;have e:yAP r (o::ops)=yAP (yEI r o) ops:=rfl;rw [e,zLj];omega
theorem yKC {r:Rows} {ops:List BOp} {i:Nat} {o:BOp} (h:ops[i]? = some o):yAP r (ops.take (i+1))=yEI (yAP r (ops.take i)) o:=by unfold yAP;rw [List.take_add_one,h,List.foldl_append];rfl
section
variable {W:World}
theorem yC4 {N:List Nd} {ta:Option Addr} {r:Rows} {p:Nat} {tb:Int} (hT:TbOk N ta r) (A:SP) (a:Option Addr) (c:Nat) (ops:List BOp) (hL:Lv W opC 3 A a ops) (hl:r.length+ops.length≤144115188075855872) :Ct prog W 53 [zPp p,.slice a ops.length c] [A,tbP p ta tb,arP N] (fun _:TbQ N (yAP r ops)=>.tuple #[]) (fun x=>[A,tbP p x.1.2.1 x.1.2.2,arP x.1.1]):=by
 refine zE func53 ntmps53 fun R=>?_;repeat' (first|refine xst ?_|refine xsf ?_ ?_|intro _)
 refine yAC (fun x:{x:Nat × List Nd × Option Addr × Int//x.1≤ops.length∧(∀ y ∈ N,y ∈ x.2.1)∧TbOk x.2.1 x.2.2.1 (yAP r (ops.take x.1))}=>[(0,zPp p),(6,.slice a ops.length c),(7,zi (ops.length:Nat)),(8,zi (x.1.1:Nat))])
  (fun x=>[A,tbP p x.1.2.2.1 x.1.2.2.2,arP x.1.2.1]++R) (fun x=>ops.length-x.1.1) ⟨(0,N,ta,tb),zLA _,fun y hy=>hy,hT⟩ xB (xN) (fun ⟨(i,N1,a1,b1),hi,hN,hT⟩=>?_)
 dsimp only at hi hN hT ⊢;by_cases hlt:i<ops.length
 ·have ql:decide ((i:Int)<(ops.length:Nat))=true:=zY zO;obtain ⟨o,ho⟩:∃ s,ops[i]? = some s:=⟨_,zLb hlt⟩;refine KJ.lvSome hL xS zO (fun b of aJ=>?_);subst aJ;have ae:of+Int.toNat (i:Int)*3=of+i*3:=zW;have ai:=yCX (ops.take i) r;rw [zLg] at ai;have ax:=yKC (r:=r) ho;obtain ⟨del,key,val⟩:=o;cases del with
  |true=>
   have cd:=yZ3 (W:=W) (p:=p) (b:=b1) (k:=key) hT zO;rw [show yHn (yAP r (ops.take i)) key=yAP r (ops.take (i+1)) from ax.symm] at cd;repeat' (first|refine zal fun g5=>?_|refine xca cd fun x=>?_;obtain ⟨⟨N2,a2,b2⟩,g2,t2⟩:=x;dsimp only at g2 t2 ⊢|refine yAi ?_;refine yAa (yBa yAY hL rfl rfl xS ae ho) ?_|refine zad (i+1) ?_|refine xqa ?_|refine xsf ?_ ?_|intro _)
   all_goals refine yAs ⟨(i+1,N2,a2,b2),hlt,fun y hy=>g2 y (hN y hy),t2⟩ (by show ops.length-(i+1)<ops.length-i;omega) xB (xN)
  |false=>
   have cp:=yPT (W:=W) (p:=p) (b:=b1) (k:=key) (v:=val) hT zO;rw [show yHW (yAP r (ops.take i)) key val=yAP r (ops.take (i+1)) from ax.symm] at cp;repeat' (first|refine zal fun g5=>?_|refine xca cp fun x=>?_;obtain ⟨⟨N2,a2,b2⟩,g2,t2⟩:=x;dsimp only at g2 t2 ⊢|refine yAi ?_;refine yAa (yBa yAY hL rfl rfl xS ae ho) ?_|refine zad (i+1) ?_|refine xqa ?_|refine xsf ?_ ?_|intro _)
   all_goals refine yAs ⟨(i+1,N2,a2,b2),hlt,fun y hy=>g2 y (hN y hy),t2⟩ (by show ops.length-(i+1)<ops.length-i;omega) xB (xN)
 have ql:decide ((i:Int)<(ops.length:Nat))=false:=zZ zO;obtain rfl:i=ops.length:=zO;rw [List.take_length] at hT;repeat' (first|refine xqa ?_|refine xsf ?_ ?_|intro _)
 all_goals (exact xdn ⟨(N1,a1,b1),hN,hT⟩)
end
def rowB (p:zB × zB):zB:=tx p.1++tx p.2
def yAk (r:Rows):zB:=vu r.length++r.flatMap rowB
def yBJ (n len:Nat):zB:=vu n++vu len
theorem yDc (n len:Nat):(yBJ n len).length≤20:=by unfold yBJ vu;rw [zLa];have h1:=yQR 10 n;have h2:=yQR 10 len;omega
def yAA (n:Nat):Nat:=(n-2) / 3
def yAG (n v:Nat):Nat:=if v % 2=0 then 2 else 2+yAA n
def yAN (n:Nat):Nat:=2+2*yAA n
def yA7 (n:Nat):Nat:=n-2-2*yAA n
theorem yBf {n:Nat} (h:64≤n) (v:Nat):2≤yAG n v∧yAG n v+yAA n≤yAN n∧yAN n+yA7 n=n∧20≤yAA n:=by unfold yAG yAN yA7 yAA;split <;> omega
theorem yFE (D:Dsk) (i:Int) (s:zB):(D.writeD i s).life=D.life:=by
 unfold Dsk.writeD Dsk.gone;repeat' split
 all_goals rfl
theorem yFF (D:Dsk):D.flushD.life=D.life:=by
 unfold Dsk.flushD Dsk.gone;repeat' split
 all_goals rfl
theorem yU6 (at_ aa:Int):∀ (f:Nat) (D:Dsk) (i:Int) (v:zB),(yDv at_ aa f D i v).2.life=D.life:=by
 intro f
 induction f with
 |zero=>intro D i v;unfold yDv;exact yFF D
 |succ f ih=>
  intro D i v;unfold yDv;repeat' split
  ·exact yFF D
  ·exact yFE _ _ _
  ·rw [ih];exact yFE _ _ _
theorem yKD {D:Dsk} (hr:Rest D) (a n s:Nat) (v:zB) (ha:a+n≤D.n) (hs:1≤s) (hv:v.length≤234*n) (hn:n≤65536) :(yBF D a n s v).1=0∧Rest (yBF D a n s v).2∧(yBF D a n s v).2.n=D.n∧(yBF D a n s v).2.life=D.life∧ (∀ k,234*k<v.length→(yBF D a n s v).2.sec (a+k)=yAF s ((v.drop (234*k)).take 234))∧∀ j,j<D.n→(j<a∨a+n≤j)→(yBF D a n s v).2.sec j=D.sec j:=by
 have hm:D.mayB a n=true:=by unfold Dsk.mayB;exact zY zO
 have kD:yHw v.length≤n:=by unfold yHw;omega
 have ah:yCI n=234*n:=by unfold yCI;omega
 have e1:yBF D a n s v=yDv (a:Int) (s:Int) v.length D ((0:Nat):Int) v:=by unfold yBF;rw [if_neg (by rw [hm];simp),if_neg zO,if_neg zO,if_neg (by rw [hr.calm.1];simp)];rfl
 have dp:=yU6 (a:Int) (s:Int) v.length D ((0:Nat):Int) v;obtain ⟨w1,w2,w3,w4⟩:=yUx s a v.length D 0 v hr.calm.1 hr.ok zO zO;rw [← e1] at w1 w2 w3 w4 dp;clear e1;obtain ⟨r,aN⟩:∃ r,r=yBF D a n s v:=⟨_,rfl⟩;rw [← aN] at w1 w2 w3 w4 dp ⊢;clear aN;obtain ⟨w0,wa⟩:=w4 hr.calm.2;rcases w1 with ⟨_,w5,w6,w7⟩|⟨w5,_⟩;rotate_left
 ·rw [w0] at w5;cases w5
 rw [hr.und,List.nil_append,zLz] at w7;have ai:=hr.ok.len;have dh:∀ x ∈ pcs (s:Int) v.length a v,a≤x.1∧x.1<a+yHw v.length∧x.2.length=256:=fun x hx=>yUv _ _ _ _ x hx;refine ⟨w0,⟨⟨w5,wa⟩,w6,w3⟩,w2,dp,fun k hk=>?_,fun j hj hja=>?_⟩
 ·obtain ⟨d,a1,a2,a3⟩:=yQI (s:Int) D.n (fun _=>256) (fun _=>Nat.le_refl _) v.length a (pcs (s:Int) v.length a v).length 0 v D.img ai zO k hk;rw [a3 (fun _=>rfl) zO (Nat.le_refl _),zLi (Nat.le_refl _),yN1 _ (fun _=>rfl) _ _ (fun x hx=>(dh x hx).2.2),← w7,yKf _ _ (yBk _ _ (by rw [zLg];omega)) (yBY _ _ _ (by unfold yHw at kD;omega))] at a2;exact a2
 ·unfold Dsk.sec;rw [w7];exact yDF D.n j _ _ ai fun x hx=>by obtain ⟨a1,a2,a3⟩:=dh x hx;exact ⟨zO,zO,zO⟩
theorem yLz {D:Dsk} (hr:Rest D) (a n s:Nat) (v:zB) (ha:a+n≤D.n) (hs:1≤s) (hv:v.length≤234*n) (hn:n≤65536) (hk:∀ k,234*k<v.length→D.sec (a+k)=yAF s ((v.drop (234*k)).take 234)) :yCd D a n s v.length=(v,0):=by
 have hm:D.mayB a n=true:=by unfold Dsk.mayB;exact zY zO
 have ah:yCI n=234*n:=by unfold yCI;omega
 have kD:yHw v.length≤n:=by unfold yHw;omega
 have hA:yCd D a n s v.length=yMO D a s v.length (yHw v.length) 0 []:=by
  unfold yCd;rw [if_neg (by rw [hm];simp),if_neg zO,if_neg zO,if_neg zO,if_neg (by rw [hr.calm.1];simp)];have:(yCm v.length).toNat=yHw v.length:=by unfold yCm yHw;split <;> omega
  rw [this]
 rw [hA];exact yZK hr.calm.1 hr.und a s zO (yHw v.length) 0 v [] v.length rfl zO (fun _=>by omega) hk
theorem yKE (D:Dsk) (a v:Int) (s:zB):(yBB D a v s).life=D.life:=by
 unfold yBB yDq;repeat' split
 all_goals first|rfl|(rw [yFF,yFE])|(rw [yFE])
structure Good (n:Nat) (r:Rows) (v:Nat) (D:Dsk):Prop where
 rest:Rest D
 nn:D.n=n
 slot:Holds D 0 v (yBJ n (yAk r).length)
 area:∀ k,234*k<(yAk r).length→D.sec (yAG n v+k)=yAF v (((yAk r).drop (234*k)).take 234)
 log:∀ j,j<yA7 n→yDX ((D.sec (yAN n+j)).drop 248) 8<(yA8 v j:Nat)
def yDt (D:Dsk) (n v:Nat) (r:Rows):Dsk:=(yBF D (yAG n v) (yAA n) v (yAk r)).2
def yFG (D:Dsk) (n v:Nat) (r:Rows):Dsk:=yBB (yDt D n v r) 0 v (yBJ n (yAk r).length)
structure Ready (n v:Nat) (D:Dsk):Prop where
 rest:Rest D
 nn:D.n=n
 slot:∃ l,Holds D 0 v l
 log:∀ j,j<yA7 n→yDX ((D.sec (yAN n+j)).drop 248) 8<(yA8 v j:Nat)
theorem Good.ready {n v:Nat} {r:Rows} {D:Dsk} (h:Good n r v D):Ready n v D:=⟨h.rest,h.nn,⟨_,h.slot⟩,h.log⟩
theorem Ready.blank {n:Nat} (h1:64≤n) (h2:n≤65536):Ready n 0 (Dsk.blank n):=by refine ⟨yIF n zO h2,rfl,⟨[],Holds.blank n 0 zO⟩,fun j hj=>?_⟩;have hf:=yBf h1 0;rw [yKc n _ zO,yXc];unfold yA8;omega
theorem Ready.fold {n v:Nat} {D:Dsk} (h:Ready n v D) (r:Rows) (h1:64≤n) (h2:n≤65536) (hv:v+1≤1099511627776) (hr:(yAk r).length≤234*yAA n) :(yBF D (yAG n (v+1)) (yAA n) ((v+1:Nat):Int) (yAk r)).1=0∧yB1 (yDt D n (v+1) r) 0 ((v+1:Nat):Int) (yBJ n (yAk r).length)=0∧Good n r (v+1) (yFG D n (v+1) r)∧(yFG D n (v+1) r).life=D.life∧(yDt D n (v+1) r).off=false∧(yDt D n (v+1) r).und=[]∧(yDt D n (v+1) r).n=n∧(yFG D n (v+1) r).off=false:=by
 obtain ⟨f1,f2,f3,f4⟩:=yBf h1 (v+1);obtain ⟨l,hl⟩:=h.slot;have hn:=h.nn;obtain ⟨a1,a2,a3,a4,a5,a6⟩:=yKD h.rest (yAG n (v+1)) (yAA n) (v+1) (yAk r) zO zO hr (by unfold yAA;omega);have hA:(yBF D (yAG n (v+1)) (yAA n) ((v+1:Nat):Int) (yAk r)).2=yDt D n (v+1) r:=rfl;rw [hA] at a2 a3 a4 a5 a6;have hl2:Holds (yDt D n (v+1) r) 0 v l:=hl.keep fun k hk=>by refine a6 _ zO (.inl zO)
 have hh:=yDc n (yAk r).length;obtain ⟨b1,b2,b3,b4,b5⟩:=yGE a2 0 (v+1) (yBJ n (yAk r).length) zO zO hv zO;have hS:=Holds.next a2 zO hl2 hv (show (yBJ n (yAk r).length).length≤234 by omega);refine ⟨a1,b1,⟨b2,b3.trans (a3.trans hn),hS,fun k hk=>?_,fun j hj=>?_⟩,(yKE _ _ _ _).trans a4,a2.calm.1,a2.und,a3.trans hn,b2.calm.1⟩
 ·have:=a5 k hk;rw [← this];exact b5 _ zO zO
 ·have h3:(yFG D n (v+1) r).sec (yAN n+j)=D.sec (yAN n+j):=(b5 _ zO zO).trans (a6 _ zO (.inr zO));rw [h3];have h4:=h.log j hj;have h5:yA8 v j<yA8 (v+1) j:=by unfold yA8;omega
  first|exact Nat.lt_trans h4 h5|exact Int.lt_trans h4 zO
theorem Good.read {n v:Nat} {r:Rows} {D:Dsk} (h:Good n r v D) (h1:64≤n) (h2:n≤65536) (hv:1≤v∧v≤1099511627776) (hr:(yAk r).length≤234*yAA n) :yBA D 0=0∧yB6 D 0=v∧yBT D 0=yBJ n (yAk r).length∧yCd D (yAG n v) (yAA n) v (yAk r).length=(yAk r,0):=by
 obtain ⟨f1,f2,f3,f4⟩:=yBf h1 v;have hn:=h.nn;have ht:=Holds.told h.rest (a:=0) zO h.slot;have aR:¬ v=0:=zO;rw [if_neg aR,if_neg aR] at ht;exact ⟨ht.1,ht.2.1,ht.2.2,yLz h.rest _ _ _ _ zO hv.1 hr (by unfold yAA;omega) h.area⟩
theorem yKF (l:List BOp):(yAR l).length≤l.length:=by
 induction l with
 |nil=>exact Nat.le_refl _
 |cons o r ih=>
  unfold yAR;split
  ·rw [zLj];omega
  ·rw [yIL];have:=yJh (f:=BOp.key) (yAR r) o.nrm.key;simp only [zLa,zLg,zLf,zLj,List.length_nil];omega
theorem yQ5 (at_ ver used:Nat):∀ (ps:List zB) (i:Nat) (D:Dsk),yLr D→yLr (yBU at_ ver used ps i D).2:=by
 intro ps
 induction ps with
 |nil=>intro i D h;exact h
 |cons q ps ih=>
  intro i D h;have hc:=(yFv h ((at_:Int)+(used:Nat)+(i:Nat)) (yAF (yA8 ver (used+i):Nat) q)).1;unfold yBU;split
  ·exact hc
  ·exact ih _ _ hc
theorem yPU {D:Dsk} (hr:Rest D) {at_ v used:Nat} {ps:List zB} (hp:∀ p ∈ ps,p.length≤234) (hf:at_+used+ps.length≤D.n) :(yBU at_ v used ps 0 D).1=true∧(yBU at_ v used ps 0 D).2.off=false∧(yBU at_ v used ps 0 D).2.life=D.life∧(yBU at_ v used ps 0 D).2.und.length=ps.length∧(yBU at_ v used ps 0 D).2.n=D.n∧(yBU at_ v used ps 0 D).2.flushE=0∧ Rest (yBU at_ v used ps 0 D).2.flushD∧(yBU at_ v used ps 0 D).2.flushD.n=D.n∧(yBU at_ v used ps 0 D).2.flushD.life=D.life∧ ∀ j,j<D.n→(j<at_+used∨at_+used+ps.length≤j)→(yBU at_ v used ps 0 D).2.flushD.sec j=D.sec j:=by
 obtain ⟨w1,w2,w3,w4,w5⟩:=yUH at_ v used ps 0 D hr.calm.1 hr.ok hp zO;have hc:=yQ5 at_ v used ps 0 D hr.calm;obtain ⟨A,hA⟩:∃ A,A=yBU at_ v used ps 0 D:=⟨_,rfl⟩;rw [← hA] at w1 w2 w3 w4 w5 hc ⊢;clear hA;rcases w1 with ⟨a1,a2,a3⟩|⟨_,a2,_⟩;rotate_left
 ·rw [hc.1] at a2;cases a2
 rw [hr.und,List.nil_append,zLz] at a3;obtain ⟨f1,f2,f3,f4,f5⟩:=yKb hc;refine ⟨a1,a2,w5,by rw [a3,ySh],w3,f3,⟨f1,f4,Dsk.flushD_ok w4⟩,by rw [f2,w3],by rw [yFF,w5],fun j hj hjo=>?_⟩;unfold Dsk.sec;rw [f5,a3,w2];exact yDF D.n j _ _ hr.ok.len fun x hx=>by obtain ⟨b1,b2,b3⟩:=xBA at_ v ps used hp x hx;exact ⟨zO,zO,zO⟩
theorem xC0 (x:Nat):ShrF .i64 (x:Int) 7 ((x / 128:Nat):Int):=by refine ⟨zO,?_⟩;show (x:Int).fdiv 128=_;rw [Int.fdiv_eq_ediv_of_nonneg _ zO];omega
def yC1 (r:Rows) (i:Nat):zB:=vu r.length++(r.take i).flatMap rowB
theorem yKG (r:Rows):yC1 r 0=vu r.length:=by simp [yC1]
theorem yLR (r:Rows):yC1 r r.length=yAk r:=by unfold yC1 yAk;rw [List.take_length]
theorem yHq {r:Rows} {i:Nat} {p:zB × zB} (h:r[i]? = some p):yC1 r (i+1)=yC1 r i++rowB p:=by unfold yC1;rw [List.take_add_one,h,zLd];simp
theorem yLS {r:Rows} {i:Nat} {p:zB × zB} (h:r[i]? = some p):(yC1 r i).length+(rowB p).length≤(yAk r).length:=by
 have e:yAk r=yC1 r (i+1)++(r.drop (i+1)).flatMap rowB:=by unfold yAk yC1;rw [zLd,← List.flatMap_append,zLu]
 rw [e,yHq h];simp
theorem yM7 (p:zB × zB):(rowB p).length=(vu p.1.length).length+p.1.length+((vu p.2.length).length+p.2.length):=by unfold rowB tx;simp only [zLa]
section
variable {W:World} {N:List Nd} {a:Option Addr} {r:Rows} {p:Nat} {b:Int}
instance xBL:FnIs prog 112:=⟨zK⟩
theorem yKH (x:Nat) (hx:x<9223372036854775808):CtU prog W 112 [zi (x:Nat)] [] (zi ((vu x).length:Nat)) []:=by
 have hv:=yCe x;refine zE func112 ntmps112 fun R=>?_;repeat' (first|refine xst ?_|refine xsf ?_ ?_|intro _)
 refine yAC (fun i:{i:zB × Nat × Nat//VuI [] x i}=>[(0,zi (i.1.2.1:Nat)),(3,zi (i.1.1.length+1:Nat))])
  (fun _=>[]++R) (fun i=>i.1.2.2) ⟨([],x,9),VuI.start [] zO⟩ xB (xN) (fun ⟨(l',y,f),hi⟩=>?_)
 dsimp only;have ai:=hi.len;dsimp only at ai;rw [List.length_nil] at ai;by_cases hlt:y<128
 ·have ql:decide ((128:Int)≤(y:Nat))=false:=zZ zO;have e1:=congrArg List.length (hi.last hlt);rw [zLa,zLa,List.length_nil,zLj,List.length_nil] at e1;have e2:(vu x).length=l'.length+1:=zO;rw [e2];repeat' (first|refine xqa ?_|refine xsf ?_ ?_|exact xdn ()|intro _)
 ·have ql:decide ((128:Int)≤(y:Nat))=true:=zY zO;obtain ⟨f',rfl,hn⟩:=hi.next hlt;have e3:(l'++[UInt8.ofNat (y % 128+128)]).length+1=l'.length+1+1:=zW;repeat' (first|refine zad (l'.length+1+1) ?_|refine yLE ?_;refine yAa (yQX rfl rfl (xC0 y)) ?_|refine xqa ?_|refine xsf ?_ ?_|intro _)
  all_goals
   refine yAs ⟨(l'++[UInt8.ofNat (y % 128+128)],y / 128,f'),hn⟩ (by show f'<f'+1;omega) ?_ (xN);dsimp only;rw [e3];exact xB
theorem yOi (r:Rows):2*r.length+1≤(yAk r).length:=by
 have h1:∀ l:Rows,2*l.length≤(l.flatMap rowB).length:=fun l=>by
  induction l with
  |nil=>simp
  |cons p l ih=>
   have h2:=yM7 p;have h3:=yCG p.1.length;have h4:=yCG p.2.length;rw [zLr,zLa,zLj];omega
 have h5:=yCG r.length;have:=h1 r;unfold yAk;rw [zLa];omega
theorem yEM (hT:TbOk N a r) (hl:(yAk r).length≤4611686018427387904) :CtU prog W 54 [zPp p] [tbP p a b,arP N] (zi ((yAk r).length:Nat)) [tbP p a b,arP N]:=by
 have cl:=yPS (W:=W) (p:=p) (b:=b) hT;have cf:=yM6 (W:=W) (p:=p) (a:=a) (b:=b) [];have du:=yOi r;have cv0:CtU prog W 112 [zi (r.length:Nat)] [] (zi ((yC1 r 0).length:Nat)) []:=by rw [yKG];exact yKH (W:=W) r.length zO
 obtain ⟨t,h1,h2,ht,h4⟩:=hT;have hL:r=t.frm []:=by rw [yKB,ht]
 refine zE func54 ntmps54 fun R=>?_;repeat' (first|refine zal fun g3=>?_|refine xca cf fun z=>?_;obtain ⟨gr,gl⟩:=z|refine xst ?_|refine xsf ?_ ?_|refine xdr 5 yYR ?_|apply zN|intro _)
 refine yGk (gr:=gr) (gl:=gl) (L:=r) rfl rfl h1 hL rfl zX (fun i=>yAj g3 [zi ((yC1 r i).length:Nat)] 3) (fun i=>yGZ False) .ret xP (fun l i s hs R'=>?_) ?_ (fun i hi=>?_)
 ·have ai:=yLS hs;have hrw:=yM7 s;dsimp only [Env.ofPs];have cvk:=yKH (W:=W) s.1.length zO;have cvv:=yKH (W:=W) s.2.length zO;have e:((yC1 r i).length:Int)+(((vu s.1.length).length:Int)+(s.1.length:Int)+((vu s.2.length).length:Int)+(s.2.length:Int))=((yC1 r (i+1)).length:Nat):=by rw [yHq hs,zLa,hrw];omega
  repeat' (first|refine yJC ?_;refine yJD xS ?_|(refine yBS ?_;first|(refine yBn (X:=Unit) xE cvk xP rfl ?_)|(refine yBn (X:=Unit) xE cvv xP rfl ?_))|refine xst ?_|refine xsf ?_ ?_|refine xdr 5 xBG ?_|apply zN|intro _)
  all_goals
   rw [e];exact yGM xS (xN)
 ·rw [yLR];repeat' (first|refine xst ?_|refine xsf ?_ ?_|refine xdr 5 yYR ?_|exact xdn ()|apply zN|intro _)
 ·exact yIU xS
theorem yHr (hT:TbOk N a r) (hl:(yAk r).length+10≤140737488355328) :CtU prog W 100 [zPp p] [tbP p a b,arP N] (strV (yAk r)) [tbP p a b,arP N]:=by
 have cl:=yPS (W:=W) (p:=p) (b:=b) hT;have cf:=yM6 (W:=W) (p:=p) (a:=a) (b:=b) [];have cn:=yKt (W:=W);have du:=yOi r;have e1:IntKind.u64.wrap ((r.length:Nat):Int)=((r.length:Nat):Int):=yAx _ zO;have cu:∀ g,CtU prog W 102 [zPp g,.int .u64 (r.length:Nat)] [WrP g []] (.tuple #[]) [WrP g (yC1 r 0)]:=fun g=>by have:=yD8 (W:=W) (p:=g) (l:=[]) r.length zO zW;rw [List.nil_append,← yKG r] at this;exact this
 have co:∀ g,CtU prog W 105 [zPp g] [WrP g (yAk r)] (strV (yAk r)) [WrP g (yAk r)]:=fun g=>yKw (W:=W) zO;obtain ⟨t,h1,h2,ht,h4⟩:=hT;have hL:r=t.frm []:=by rw [yKB,ht]
 refine zE func100 ntmps100 fun R=>?_;repeat' (first|refine zal fun g3=>?_|refine xca (cu _) fun _=>?_|refine xca cn fun pw=>?_|refine xca cf fun z=>?_;obtain ⟨gr,gl⟩:=z|refine xqa ?_|refine xsf ?_ ?_|refine xdr 2 yU5 ?_|apply zN|intro _)
 all_goals
  refine KJ.allShut (L:=[yAj g3 [zPp pw] 158,WrP pw (yC1 r 0)]) 78 xP ?_;refine yGk (gr:=gr) (gl:=gl) (L:=r) rfl rfl h1 hL rfl zX (fun i=>yDx 78 [yAj g3 [zPp pw] 158,WrP pw (yC1 r i)]) (fun i=>yGZ False) .ret xP (fun l i s hs R'=>?_) ?_ (fun i hi=>?_)
  ·have ai:=yLS hs;have hrw:=yM7 s;have eA:=yCG s.1.length;have fA:=yCG s.2.length;dsimp only [Env.ofPs];refine KJ.allOpen xS ?_;have ck:=yH5 (W:=W) (p:=pw) (l:=yC1 r i) s.1 zO;have cv:CtU prog W 118 [zPp pw,strV s.2] [WrP pw (yC1 r i++tx s.1)] (.tuple #[]) [WrP pw (yC1 r (i+1))]:=by have:=yH5 (W:=W) (p:=pw) (l:=yC1 r i++tx s.1) s.2 (by rw [zLa];unfold tx;rw [zLa];omega);rw [zLd,show tx s.1++tx s.2=rowB s from rfl,← yHq hs] at this;exact this
   repeat' (first|refine yJC ?_;refine yJD xS ?_|refine xst ?_|refine xsf ?_ ?_|refine xdr 2 yU5 ?_|apply zN|intro _)
   refine KJ.allShut (L:=[yAj g3 [zPp pw] 158,WrP pw (yC1 r (i+1))]) 78 xP ?_;exact yGM xS (xN)
  ·refine KJ.allOpen xS ?_;rw [yLR];repeat' (first|refine xca (co _) fun _=>?_|refine xst ?_|refine xsf ?_ ?_|refine xdr 2 yU5 ?_|exact xdn ()|apply zN|intro _)
  ·exact yIU xS
end
structure UE where
 key:zB
 old:zB
 there:Bool
 gt:Nat
 gk:Nat
 go:Nat
 gh:Nat
structure TxH where
 q:Nat
 a:Option Addr
 b:Int
 N:List Nd
 m:Nat
 ua:Option Addr
 uc:Nat
abbrev stC (d q n:Nat) (v:Int) (lg:Option Addr) (life:Int) (dead:Bool):List Value:=
 [zPp d,zi 2,zi (2+yAA n:Nat),zi (yAA n:Nat),zi (yAN n:Nat),zi (yA7 n:Nat),zPp q,zi v,.pointer lg,zi life,.bool dead]
abbrev stP (s d q n:Nat) (v:Int) (lg:Option Addr) (life:Int) (dead:Bool):SP:=yAj s (stC d q n v lg life dead) 108
abbrev yOj (n:Nat):List Value:=[zi 2,zi (2+yAA n:Nat),zi (yAA n:Nat),zi (yAN n:Nat),zi (yA7 n:Nat)]
theorem yBr {n:Nat} (h:n≤65536):yAA n≤21845:=by unfold yAA;omega
section
variable {W:World} {N:List Nd} {a:Option Addr} {r:Rows} {p q s d n:Nat} {b:Int} {D:Dsk}
instance yZ4:FnIs prog 86:=⟨zK⟩
theorem yPV (h1:64≤n) (h2:n≤65536):CtU prog W 86 [zi (n:Nat)] [] (.agg (yOj n).toArray) []:=by
 have hq:((n:Int)-2) / 3=(yAA n:Nat):=by unfold yAA;omega
 have hA:=yBr h2;have e1:(2:Int)+(yAA n:Nat)=(2+yAA n:Nat):=zO;have e2:(2:Int)*(yAA n:Nat)=(2*yAA n:Nat):=zO;have e3:(2:Int)+(2*yAA n:Nat)=(yAN n:Nat):=by unfold yAN;omega
 have e4:(n:Int)-2-(2*yAA n:Nat)=(yA7 n:Nat):=by unfold yA7 yAA;omega
 have b3:=yBf h1 0;refine zE func86 ntmps86 fun R=>?_;repeat' (first|refine zal fun g=>?_|refine yAL ?_;refine yAa (yUd (t:=102) (vs:=[zi 2,zi (2+yAA n:Nat)]) xV zK) ?_|refine xqa ?_|refine xsf ?_ ?_|intro _)
 all_goals (refine yCu ?_;exact yA5 zor rfl (Rvs.agg (T:=104) rfl inferInstance inferInstance xS xC Rvs.nil) () (by rfl) (xN))
end
section
variable {P:Program} {W:World} {n:Nat} {E:Env} {H:List SP} {x y z u:Operand} {a b c d:Value} {f:Fn}
theorem ySv (hx:Env.ev E x=some a) (hy:Env.ev E y=some b) (hz:Env.ev E z=some c):Ev P W n E H (.makeFunc f #[] #[x,y,z]) (.func f #[] #[a,b,c]):=
 Ev.mk fun o ho ac w p _=>by simp [execOp,ho,p.ev hx,p.ev hy,p.ev hz,Instr.makeFunc]
end
section
variable {W:World} {M:List Nd} {F:Nat→Addr} {N:List Nd} {a:Option Addr} {r:Rows} {q s d n:Nat} {b:Int}
instance xCv:FnIs prog 19:=⟨zK⟩
theorem yQ6 (v:Int) (lg:Option Addr) (life:Int) (dead:Bool) (hT:TbOk N a r) (hl:r.length*32≤140737488355328) :Ct prog W 19 [zPp s] [stP s d q n v lg life dead,tbP q a b,arP N] (fun x:Option Addr × Nat=>.slice x.1 r.length x.2) (fun x=>[stP s d q n v lg life dead,tbP q a b,arP N,lsP rC 64 2 (.slice x.1 r.length x.2) r]):=by
 have cr:=yXv (W:=W) (p:=q) (b:=b) hT hl;refine zE func19 ntmps19 fun R=>?_;repeat' (first|refine xca cr fun x=>?_|refine xst ?_|refine xsf ?_ ?_|intro _)
 all_goals (exact xdn x)
end
abbrev L16:List Nat:=[1,2,3,4,5,6,7,12,13,14,15,16,17,18,19,21]
section
variable {W:World} {F:Nat→Addr}
theorem ErrsOn.lo {S T:List Nat} (h:ErrsOn S W F) (hs:∀ k,k ∈ T→k ∈ S):ErrsOn T W F:=
 ⟨fun k hk=>h.at_ k (hs k hk),fun k hk=>h.obj k (hs k hk),fun j k hj hk=>h.inj j k (hs j hj) (hs k hk),fun k hk=>h.pos k (hs k hk)⟩
theorem ErrsOn.to8 (h:ErrsOn L16 W F):ErrsOn L8 W F:=h.lo zX
theorem ErrsAt.to16 (h:ErrsAt W F):ErrsOn L16 W F:=by have hS:∀ k ∈ L16,1≤k∧k≤37:=zX;exact ⟨fun k hk=>h.at_ k (hS k hk).1 (hS k hk).2,fun k hk=>h.obj k (hS k hk).1 (hS k hk).2,fun j k hj hk=>h.inj j k (hS j hj).1 (hS j hj).2 (hS k hk).1 (hS k hk).2,fun k hk=>(hS k hk).1⟩
end
section
variable {W:World} {F:Nat→Addr} {N:List Nd} {a:Option Addr} {r:Rows} {q s d n:Nat} {b:Int} {D:Dsk}
instance yZ5:FnIs prog 100:=⟨zK⟩
abbrev yWv (g d:Nat) (n v:Nat) (life:Int):SP:=yAj g [zPp d,zi (yAN n:Nat),zi (yA7 n:Nat),zi (v:Nat),zi 0,zi life,.bool false] 180
theorem yH9 (hE:ErrsOn L8 W F) (hN:NibAt W) (h1:64≤n) (h2:n≤65536) (v:Nat) (hv:v+1≤1099511627776) (lg:Option Addr) (life:Int) (dead:Bool) (hT:TbOk N a r) (hn:D.n=n) (hr:(yAk r).length≤234*yAA n) (aS:D.und.length+65536<1073741823) (hA:(yBF D (yAG n (v+1)) (yAA n) ((v+1:Nat):Int) (yAk r)).1=0) (db:(yDt D n (v+1) r).und=[]) (cO:(yDt D n (v+1) r).n=n) (hS:yB1 (yDt D n (v+1) r) 0 ((v+1:Nat):Int) (yBJ n (yAk r).length)=0) (ho:(yFG D n (v+1) r).off=false) (jb:(yFG D n (v+1) r).n=n) :Ct prog W 51 [zPp s] [stP s d q n (v:Nat) lg life dead,DiskP d D,tbP q a b,arP N] (fun _:Nat=>.nilIface) (fun g=>[stP s d q n ((v+1:Nat):Int) (zq g) life dead,DiskP d (yFG D n (v+1) r),tbP q a b,arP N,yWv g d n (v+1) (yFG D n (v+1) r).life]):=by
 obtain ⟨f1,f2,f3,f4⟩:=yBf h1 (v+1);have hA2:=yBr h2;have cs:=yHr (W:=W) (p:=q) (b:=b) hT zO;have cA:CtU prog W 103 [zPp d,zi (yAG n (v+1):Nat),zi (yAA n:Nat),.int .u64 ((v+1:Nat):Int),strV (yAk r)] [DiskP d D] .nilIface [DiskP d (yDt D n (v+1) r)]:=by have:=yKa (W:=W) (p:=d) (D:=D) hE hN zO aS (yAG n (v+1):Nat) (yAA n:Nat) ((v+1:Nat):Int) (yAk r);rw [hA] at this;exact this
 have cW:CtU prog W 104 [zPp d,zi 0,zi ((v+1:Nat):Int),strV (yBJ n (yAk r).length)] [DiskP d (yDt D n (v+1) r)] .nilIface [DiskP d (yFG D n (v+1) r)]:=by have:=yNU (W:=W) (p:=d) (D:=yDt D n (v+1) r) hE hN zO (by rw [db];simp) 0 ((v+1:Nat):Int) (yBJ n (yAk r).length);rw [hS] at this;exact this
 have cB:=yXb (W:=W) (p:=d) (D:=yFG D n (v+1) r) zO ho (yAN n:Nat) (yA7 n:Nat) ((v+1:Nat):Int) ⟨zO,zO,zO,zO,zO,zO,zO⟩;obtain ⟨D1,aL⟩:∃ D1,D1=yDt D n (v+1) r:=⟨_,rfl⟩;obtain ⟨D2,aF⟩:∃ D2,D2=yFG D n (v+1) r:=⟨_,rfl⟩;rw [← aL,← aF] at cW;rw [← aL] at cA;rw [← aF] at cB ⊢;clear hA hS aL aF db cO;have bj:CtU prog W 45 [zPp d] [DiskP d D] (zi (n:Nat)) [DiskP d D]:=by have:=yBM (W:=W) (p:=d) (D:=D);rw [hn] at this;exact this
 obtain ⟨L,hL⟩:∃ L,L=yAk r:=⟨_,rfl⟩;rw [← hL] at hr cs cA cW;clear hL;have cn:=yKt (W:=W);have cu1:∀ g,CtU prog W 102 [zPp g,.int .u64 (n:Nat)] [WrP g []] (.tuple #[]) [WrP g (vu n)]:=fun g=>by have:=yD8 (W:=W) (p:=g) (l:=[]) n zO zW;rw [List.nil_append] at this;exact this
 have jR:=yCe n;have jN:=yCG n;have kF:∀ g,CtU prog W 102 [zPp g,.int .u64 (L.length:Nat)] [WrP g (vu n)] (.tuple #[]) [WrP g (yBJ n L.length)]:=fun g=>yD8 (W:=W) (p:=g) (l:=vu n) L.length zO zO;have co:∀ g,CtU prog W 105 [zPp g] [WrP g (yBJ n L.length)] (strV (yBJ n L.length)) [WrP g (yBJ n L.length)]:=fun g=>yKw (W:=W) (by unfold yBJ;rw [zLa];omega);have w1:IntKind.u64.wrap ((n:Nat):Int)=((n:Nat):Int):=yAx _ zO;have w2:IntKind.u64.wrap ((L.length:Nat):Int)=((L.length:Nat):Int):=yAx _ zO;have w3:IntKind.u64.wrap ((v+1:Nat):Int)=((v+1:Nat):Int):=yAx _ zO;have q0:decide ((1099511627776:Int)≤(v:Nat))=false:=zZ zO;have cX:∀ m:Nat,((v+1:Nat):Int) % 2=(m:Nat)→(stC d q n (v:Nat) lg life dead)[0+1+0+((m:Nat):Int).toNat*1]? = some (zi (yAG n (v+1):Nat)):=fun m hm=>by
  unfold yAG;rcases (show m=0∨m=1 by omega) with rfl|rfl
  ·rw [if_pos zO];rfl
  ·rw [if_neg zO];rfl
 obtain ⟨m,hm⟩:∃ m:Nat,((v+1:Nat):Int) % 2=(m:Nat):=⟨(v+1) % 2,zO⟩;have hx:=cX m hm;have dy:m<2:=zO;clear cX;refine zE func51 ntmps51 fun R=>?_;repeat' (first|(refine yAb ?_;first|refine xca cB fun g=>?_|refine xca (co _) fun _=>?_|refine xca (kF _) fun _=>?_|refine xca (cu1 _) fun _=>?_|refine xca cn fun pw=>?_)|refine zad (v+1) ?_|refine xqa ?_|refine xsf ?_ ?_|refine xdt [(3,xBH),(7,xBI),(10,xBJ)] ?_|apply zN|intro _)
 all_goals (exact xdn g)
end
section
variable {W:World} {F:Nat→Addr} {q s d n g:Nat} {D:Dsk}
instance xC1:FnIs prog 89:=⟨zK⟩
theorem yGl:CtU prog W 89 [.nilIface] [] (.tuple #[]) []:=by refine zE func89 ntmps89 fun R=>?_;repeat' (first|refine xst ?_|refine xsf ?_ ?_|exact xdn ()|intro _)
theorem yC5 (e:Value):CtU prog W 95 [.bool true,e] [] (.tuple #[]) []:=by refine zE func95 ntmps95 fun R=>?_;repeat' (first|refine xst ?_|refine xsf ?_ ?_|exact xdn ()|intro _)
theorem yCY (hE:ErrsOn L16 W F):CtU prog W 92 [.nilIface] [] (.tuple #[]) []:=by have dV:W.cell? ⟨2,0,none⟩=some (yAy F 12):=hE.at_ 12 zX;have dz:W.cell? ⟨6,0,none⟩=some (yAy F 15):=hE.at_ 15 zX;have cu:=yC5 (W:=W) (yAy F 15);have cm:=yGl (W:=W);refine zE func92 ntmps92 fun R=>?_;repeat' (first|refine yAo ?_;refine yAa (yUt (a:=0) (b:=12) hE rfl rfl (.inl rfl) zX rfl) ?_|refine xqa ?_|refine xsf ?_ ?_|refine xdr 1 xBK ?_|exact xdn ()|apply zN|intro _)
theorem yCw (v:Int) (lg:Option Addr) (life:Int) (dead:Bool) (h2:n≤65536):CtU prog W 41 [zPp s] [stP s d q n v lg life dead] (zi (234*yAA n:Nat)) [stP s d q n v lg life dead]:=by
 have hA:=yBr h2;have cr:CtU prog W 83 [zi (yAA n:Nat)] [] (zi (234*yAA n:Nat)) []:=by have:=yMN (W:=W) (yAA n:Nat);rw [show yCI (yAA n:Nat)=(234*yAA n:Nat) by unfold yCI;omega] at this;exact this
 refine zE func41 ntmps41 fun R=>?_;repeat' (first|refine xst ?_|refine xsf ?_ ?_|exact xdn ()|intro _)
end
end Go.Proofs.YtoipmnikdiogcaaGreatDoor
