/-
  TbP, TbW1, TbW2.
-/
import Derived.Test.YtlnbkbfblhofbaaGreatDoorVCZ
set_option maxHeartbeats 64000000
namespace Go.Proofs.YtlnbkbfblhofbaaGreatDoor
open Go Go.RowKit
open Go.Proofs.Tryz
abbrev yCv:Pl:=(.op 0 (.op 1 (.op 2 (.op 3 (.op 5 (.op 6 (.op 7 (.op 8 (.ef 4 [8,7,6,5] (.ef 9 [] (.op 10 .nil)))))))))))
abbrev yFp:Pl:=(.op 0 (.op 1 (.op 2 (.op 3 (.op 4 (.op 5 (.op 6 (.op 7 (.op 8 (.op 9 (.op 10 (.op 11 (.op 12 (.op 13 (.op 14 (.op 15 (.op 16 (.op 17 (.op 18 (.ef 19 [11,10,9,8,7,6,5,4,3,2,1,0] (.ef 20 [] (.op 21 .nil))))))))))))))))))))))
abbrev yFq:Pl:=(.op 0 (.op 1 (.op 2 (.op 3 (.op 4 (.op 5 (.op 6 (.op 7 (.op 8 (.op 9 (.op 10 (.op 11 (.op 12 (.op 13 (.op 14 (.op 15 (.op 17 (.op 18 (.op 19 (.op 20 (.op 21 (.op 22 (.op 23 (.op 24 (.op 25 (.op 26 (.op 27 (.op 28 (.op 29 (.op 30 (.op 31 (.ef 16 [31,30,29,28,27,26,25,24,23,22,21,20,19,18,17] (.ef 32 [24,23,22,21,20,19,18,17] (.ef 33 [] (.op 34 .nil)))))))))))))))))))))))))))))))))))
abbrev yFr:Pl:=(.op 0 (.op 1 (.op 2 (.op 3 (.op 4 (.op 5 (.op 6 (.op 8 (.op 9 (.op 10 (.op 11 (.op 12 (.op 13 (.op 14 (.op 15 (.op 16 (.op 17 (.op 18 (.op 19 (.ef 7 [19,18,17,16,15,14,13,12,11,10,9,8] (.ef 20 [] (.op 21 .nil))))))))))))))))))))))
abbrev yFs:Pl:=(.op 0 (.op 1 (.op 2 (.op 3 (.op 4 (.op 5 (.op 6 (.op 8 (.op 9 (.op 10 (.op 11 (.op 12 (.op 13 (.op 14 (.op 15 (.op 16 (.op 17 (.op 18 (.op 19 (.op 20 (.op 21 (.op 22 (.op 23 (.op 24 (.op 25 (.op 26 (.op 27 (.op 28 (.op 29 (.op 30 (.op 31 (.ef 7 [31,30,29,28,27,26,25,24,23,22,21,20,19,18,17,16,15,14,13,12,11,10,9,8] (.ef 32 [15,14,13,12,11,10,9,8] (.ef 33 [] (.op 34 .nil)))))))))))))))))))))))))))))))))))
structure Nd where
 b:Nat
 k:List UInt8
 v:List UInt8
 l:Option Addr
 r:Option Addr
 h:Nat
 s:Nat
def ndC (x:Nd):List Value:=[strV x.k,strV x.v,.pointer x.l,.pointer x.r,.int .i64 (x.h:Nat),.int .i64 (x.s:Nat)]
def arP (N:List Nd):SP:=⟨50,0,fun h=>∀ x ∈ N,h x.b=some (.cells (ndC x).toArray 228 (0,0))⟩
theorem yWv {N:List Nd}:∀ h g,Hl.le h g→(arP N).ok h→(arP N).ok g:=fun _ _ le q x hx=>le _ _ (q x hx)
def TrAt (N:List Nd):Option Addr→Tr→Prop
 |a,.nil=>a=none
 |a,.node l k v r h s=>∃ b al ar,a=some ⟨b,0,none⟩∧⟨b,k,v,al,ar,h,s⟩ ∈ N∧TrAt N al l∧TrAt N ar r
theorem TrAt.mono {N N':List Nd} (h:∀ x ∈ N,x ∈ N'):∀ {t:Tr} {a:Option Addr},TrAt N a t→TrAt N' a t
 |.nil,_,q=>q
 |.node _ _ _ _ _ _,_,⟨b,al,ar,e,hm,q1,q2⟩=>⟨b,al,ar,e,h _ hm,q1.mono h,q2.mono h⟩
section
variable {P:Program} {W:World} {n d:Nat} {E:Env} {H H' R R':List SP} {k:KK} {t u e:TypeId} {x y z:Operand}
theorem yAy {nd:Nd} {N:List Nd} {j:Nat} {v:Value} (hx:Env.ev E x=some (.pointer (some ⟨nd.b,j,none⟩))) [hu:ScIs P t] (hs:Sel (arP N) H R) (hn:nd ∈ N) (hv:(ndC nd)[j]? = some v):Ev P W n E H (.load t x) v:=
 Ev.mk fun op hop ac w p s=>by
  obtain ⟨dd,hu,hd⟩:=hu.h
  obtain ⟨h,ha,l⟩:=s.sel hs yWv
  have hb:=(l nd.b _ (ha nd hn)).2
  have hc:w.cell? ⟨nd.b,j,none⟩=some v:=by
   have hblk:Blk w nd.b (ndC nd) 228:=hb
   rw [hblk.cell];exact hv
  simp [execOp,hop,p.ev hx,yBJ w hc hu hd,Result.andThen]
theorem yQz {N:List Nd} {nd:Nd}:∀ g,yAA (yAi nd.b (ndC nd) 228::arP N::H) g→yAA (arP (nd::N)::H) g:=fun g q=>by
 obtain ⟨h1,h2,dj,l1,l2,hA,hH⟩:=(yAU (A:=[yAi nd.b (ndC nd) 228,arP N]) (B:=H) g).1 q
 refine ⟨h1,h2,dj,l1,l2,?_,hH⟩
 obtain ⟨k1,k2,_,m1,m2,c1,c2⟩:=hA
 intro x hx
 rcases zLm.1 hx with e|e
 ·subst e;exact m1 _ _ c1
 ·exact m2 _ _ (starL_one' yWv c2 x e)
theorem KJ.arAdd {N:List Nd} (nd:Nd) {g:Nat} {cs:List Value} {T:TypeId} (hg:nd.b=g) (hcs:ndC nd=cs) (hT:T=228) (p:Pick [yAi g cs T,arP N] H R) (h:KJ W n k E (arP (nd::N)::R)):KJ W n k E H:=by
 subst hg hcs hT
 exact ⟨fun a w q s=>h.go a w q ((s.perm (p.perm.append_right _)).mono yQz)⟩
theorem yQA:∀ g,yAA H g→yAA (arP []::H) g:=fun g q=>⟨fun _=>none,g,(fun _ _ q=>by cases q),(fun _ _ q=>by cases q),.rfl,(by intro x hx;cases hx),q⟩
theorem KJ.arNil (h:KJ W n k E (arP []::H)):KJ W n k E H:=⟨fun a w q s=>h.go a w q (s.mono yQA)⟩
end
abbrev yZ1 (N:List Nd) (t:Tr):Type:={x:List Nd × Option Addr//(∀ y ∈ N,y ∈ x.1)∧TrAt x.1 x.2 t}
theorem yZ2 (a c:List UInt8):(Op.bytesLess a c=true∧Op.bytesLess c a=false)∨(Op.bytesLess a c=false∧Op.bytesLess c a=true)∨(Op.bytesLess a c=false∧Op.bytesLess c a=false):=by
 cases h:Op.bytesLess a c with
 |true=>exact .inl ⟨rfl,yFi h⟩
 |false=>cases h2:Op.bytesLess c a with
  |true=>exact .inr (.inl ⟨rfl,rfl⟩)
  |false=>exact .inr (.inr ⟨rfl,rfl⟩)
section
variable {W:World}
def yQB (a c:List UInt8):Int:=if Op.bytesLess a c=true then -1 else if Op.bytesLess c a=true then 1 else 0
instance:FnIs prog 188:=⟨zK⟩
instance:FnIs prog 148:=⟨zK⟩
theorem yPj (a:List UInt8):CtU prog W 188 [strV a] [] (.bool false) []:=by
 refine Ct.enter func188 rfl ntmps188 zW (fun R=>?_)
 repeat' (first|refine yAa (yEn rfl rfl rfl) ?_|refine xst ?_|refine xsa ?_;intro _|refine xsb ?_ ?_<;>intro _<;>try omega|refine xsc ?_|exact xdn ()|fail)
theorem yHN (a c:List UInt8):CtU prog W 148 [strV a,strV c] [] (.int .i64 (yQB a c)) []:=by
 have c1:=yPj (W:=W) a
 have c2:=yPj (W:=W) c
 have hg:(!(Op.bytesLess a c || decide (a=c)))=Op.bytesLess c a:=by rw [yHL,Bool.not_not]
 rcases yZ2 a c with ⟨h1,h2⟩|⟨h1,h2⟩|⟨h1,h2⟩
 ·have e:yQB a c=-1:=by unfold yQB;rw [if_pos h1]
  rw [e]
  refine Ct.enter func148 rfl ntmps148 zW (fun R=>?_)
  repeat' (first|(refine yAb ?_;first|refine xca c2 fun _=>?_|refine xca c1 fun _=>?_)|refine yAa (yDQ rfl rfl h1) ?_|refine xst ?_|refine xsa ?_;intro _|refine xsb ?_ ?_<;>intro _<;>try omega|refine xsc ?_|exact xdn ()|fail)
 ·have e:yQB a c=1:=by unfold yQB;rw [if_neg (by rw [h1];decide),if_pos h2]
  rw [e]
  rw [h2] at hg
  refine Ct.enter func148 rfl ntmps148 zW (fun R=>?_)
  repeat' (first|(refine yAb ?_;first|refine xca c2 fun _=>?_|refine xca c1 fun _=>?_)|refine yAa (yDQ rfl rfl h1) ?_|refine yAa (yFk rfl rfl hg) ?_|refine xst ?_|refine xsa ?_;intro _|refine xsb ?_ ?_<;>intro _<;>try omega|refine xsc ?_|exact xdn ()|fail)
 ·have e:yQB a c=0:=by unfold yQB;rw [if_neg (by rw [h1];decide),if_neg (by rw [h2];decide)]
  rw [e]
  rw [h2] at hg
  refine Ct.enter func148 rfl ntmps148 zW (fun R=>?_)
  repeat' (first|(refine yAb ?_;first|refine xca c2 fun _=>?_|refine xca c1 fun _=>?_)|refine yAa (yDQ rfl rfl h1) ?_|refine yAa (yFk rfl rfl hg) ?_|refine xst ?_|refine xsa ?_;intro _|refine xsb ?_ ?_<;>intro _<;>try omega|refine xsc ?_|exact xdn ()|fail)
end
section
variable {W:World} {N:List Nd} {a c:Option Addr} {l r t:Tr} {k v:List UInt8}
theorem yFt (hT:TrAt N a t):CtU prog W 193 [.pointer a] [arP N] (.int .i64 (t.tall:Nat)) [arP N]:=by
 cases t with
 |nil=>
  cases hT
  refine Ct.enter func193 rfl ntmps193 zW (fun R=>?_)
  repeat' (first|refine xst ?_|refine xsa ?_;intro _|refine xsb ?_ ?_<;>intro _<;>try omega|refine xsc ?_|exact xdn ()|fail)
 |node tl tk tv tr th ts=>
  obtain ⟨b,al,ar,rfl,hm,-,-⟩:=hT
  refine Ct.enter func193 rfl ntmps193 zW (fun R=>?_)
  repeat' (first|refine yAj ?_;refine yAa (yAy (nd:=⟨b,tk,tv,al,ar,th,ts⟩) rfl xS hm rfl) ?_|refine xst ?_|refine xsa ?_;intro _|refine xsb ?_ ?_<;>intro _<;>try omega|refine xsc ?_|exact xdn ()|fail)
theorem yJk (hT:TrAt N a t):CtU prog W 114 [.pointer a] [arP N] (.int .i64 (t.cnt:Nat)) [arP N]:=by
 cases t with
 |nil=>
  cases hT
  refine Ct.enter func114 rfl ntmps114 zW (fun R=>?_)
  repeat' (first|refine xst ?_|refine xsa ?_;intro _|refine xsb ?_ ?_<;>intro _<;>try omega|refine xsc ?_|exact xdn ()|fail)
 |node tl tk tv tr th ts=>
  obtain ⟨b,al,ar,rfl,hm,-,-⟩:=hT
  refine Ct.enter func114 rfl ntmps114 zW (fun R=>?_)
  repeat' (first|refine yAj ?_;refine yAa (yAy (nd:=⟨b,tk,tv,al,ar,th,ts⟩) rfl xS hm rfl) ?_|refine xst ?_|refine xsa ?_;intro _|refine xsb ?_ ?_<;>intro _<;>try omega|refine xsc ?_|exact xdn ()|fail)
theorem yC9 (hl:TrAt N a l) (hr:TrAt N c r) (h1:l.tall≤2305843009213693952) (h2:r.tall≤2305843009213693952) (h3:l.cnt≤2305843009213693952) (h4:r.cnt≤2305843009213693952) :
 Ct prog W 159 [.pointer a,strV k,strV v,.pointer c] [arP N] (fun x:yZ1 N (Tr.join l k v r)=>.pointer x.1.2) (fun x=>[arP x.1.1]):=by
 have c1:=yFt (W:=W) hl
 have c2:=yFt (W:=W) hr
 have c3:=yJk (W:=W) hl
 have c4:=yJk (W:=W) hr
 obtain ⟨tl,htl⟩:∃ x,x=l.tall:=⟨_,rfl⟩
 obtain ⟨tr,htr⟩:∃ x,x=r.tall:=⟨_,rfl⟩
 obtain ⟨nl,hnl⟩:∃ x,x=l.cnt:=⟨_,rfl⟩
 obtain ⟨nr,hnr⟩:∃ x,x=r.cnt:=⟨_,rfl⟩
 rw [← htl] at h1 c1
 rw [← htr] at h2 c2
 rw [← hnl] at h3 c3
 rw [← hnr] at h4 c4
 have hmx:max ((tl:Nat):Int) ((tr:Nat):Int)=((max tl tr:Nat):Int):=zO
 refine Ct.enter func159 rfl ntmps159 zW (fun R=>?_)
 repeat' (first|refine yA4 ?_;refine yA3 rfl xF rfl (fun g=>?_);refine KJ.arAdd ⟨g,k,v,a,c,max tl tr+1,nl+nr+1⟩ rfl rfl rfl xP ?_|(refine yAb ?_;first|refine xca c4 fun _=>?_|refine xca c3 fun _=>?_|refine xca c2 fun _=>?_|refine xca c1 fun _=>?_)|refine yAB ?_;refine yAa (yAC xV xW) ?_|refine yRO ?_;refine yAa (yO8 rfl rfl hmx) ?_|refine yAa (yAd (r:=((nl+nr+1:Nat):Int)) rfl rfl zO zO) ?_|refine yAa (yAd (r:=((nl+nr:Nat):Int)) rfl rfl zO zO) ?_|refine yAa (yAd (r:=((max tl tr+1:Nat):Int)) rfl rfl zO zO) ?_|refine xst ?_|refine xsa ?_;intro _|refine xsb ?_ ?_<;>intro _<;>try omega|refine xsc ?_|fail)
 all_goals (exact xdn ⟨(⟨g,k,v,a,c,max tl tr+1,nl+nr+1⟩::N,some ⟨g,0,none⟩),fun y hy=>List.mem_cons_of_mem _ hy,⟨g,a,c,rfl,by rw [htl,htr,hnl,hnr];exact List.mem_cons_self ..,hl.mono fun y hy=>List.mem_cons_of_mem _ hy,hr.mono fun y hy=>List.mem_cons_of_mem _ hy⟩⟩)
end
theorem Tr.child {l r:Tr} {k v:List UInt8} {h s:Nat} (q:(Tr.node l k v r h s).Ok):l.Ok∧r.Ok∧l.tall≤h∧r.tall≤h∧l.cnt≤s∧r.cnt≤s:=⟨q.1,q.2.1,by have:=q.2.2.1;omega,by have:=q.2.2.1;omega,by have:=q.2.2.2.1;omega,by have:=q.2.2.2.1;omega⟩
theorem yEx (l r:Tr) (k v:List UInt8):(Tr.join l k v r).tall=max l.tall r.tall+1:=rfl
theorem yFR (l r:Tr) (k v:List UInt8):(Tr.join l k v r).cnt=l.cnt+r.cnt+1:=rfl
section
variable {W:World} {N:List Nd} {a c:Option Addr} {l r t:Tr} {k v:List UInt8}
theorem yG8 (hl:TrAt N a l) (hr:TrAt N c r) (ol:l.Ok) (or_:r.Ok) (h3:l.cnt≤576460752303423488) (h4:r.cnt≤576460752303423488) :
 Ct prog W 158 [.pointer a,strV k,strV v,.pointer c] [arP N] (fun x:yZ1 N (Tr.level l k v r)=>.pointer x.1.2) (fun x=>[arP x.1.1]):=by
 have h1:=Tr.tall_cnt ol
 have h2:=Tr.tall_cnt or_
 have c1:=yFt (W:=W) hl
 have c2:=yFt (W:=W) hr
 by_cases hc:r.tall+1<l.tall
 ·have hcn:True:=trivial
  cases l with
  |nil=>exact absurd hc (by simp only [Tr.t0];omega)
  |node tl yk yv tr yh ys=>
   obtain ⟨b,yl,yr,rfl,hm,hyl,hyr⟩:=hl
   have hN:TrAt N (some ⟨b,0,none⟩) (.node tl yk yv tr yh ys):=⟨b,yl,yr,rfl,hm,hyl,hyr⟩
   obtain ⟨k1,k2,k3,k4,k5,k6⟩:=Tr.child ol
   rw [Tr.tn] at h1 c1
   simp only [Tr.tn] at hc hcn
   have c3:=yFt (W:=W) hyl
   have c4:=yFt (W:=W) hyr
   have h3:ys≤576460752303423488:=h3
   have h1:yh≤ys:=h1
   have q1:decide (((r.tall+1:Nat):Int)<((yh:Nat):Int))=true:=zY zO
   by_cases hc2:tr.tall≤tl.tall
   ·have q3:decide (((tr.tall:Nat):Int)≤((tl.tall:Nat):Int))=true:=zY zO
    have he:Tr.level (.node tl yk yv tr yh ys) k v r=Tr.join tl yk yv (Tr.join tr k v r):=by unfold Tr.level;exact (if_pos (by simp only [Tr.tn];exact hc)).trans (if_pos hc2)
    have b1:=yEx tr r k v
    have b2:=yFR tr r k v
    rw [he]
    refine Ct.enter func158 rfl ntmps158 zW (fun R=>?_)
    repeat' (first|(refine yAb ?_;first|refine xca (yC9 (W:=W) (hyr) (hr) zO zO zO zO) fun x=>?_;obtain ⟨⟨N1,p1⟩,g1,t1⟩:=x;dsimp only at g1 t1 ⊢;refine yCO ?_|refine xca c4 fun _=>?_|refine xca c3 fun _=>?_|refine xca c2 fun _=>?_|refine xca c1 fun _=>?_)|refine yAj ?_;refine yAa (yAy (nd:=⟨b,yk,yv,yl,yr,yh,ys⟩) rfl xS hm rfl) ?_|refine yAa (yAd (r:=((r.tall+1:Nat):Int)) rfl rfl zO zO) ?_|refine yAa (yAe rfl rfl q1) ?_|refine yAa (yAm rfl rfl q3) ?_|refine xst ?_|refine xsa ?_;intro _|refine xsb ?_ ?_<;>intro _<;>try omega|refine xsc ?_|refine xdr 3 yCv ?_|refine xdr 4 yFp ?_|refine xdr 6 yFq ?_|refine xdr 8 yCv ?_|refine xdr 9 yFr ?_|refine xdr 11 yFs ?_|refine xsd ?_ ?_|exact Rech.nil|fail)
    refine Hold.mk ?_
    repeat' (first|refine yAb ?_;refine xca (yC9 (W:=W) (hyl.mono g1) (t1) zO zO zO zO) fun x=>?_;obtain ⟨⟨N2,p2⟩,g2,t2⟩:=x;dsimp only at g2 t2 ⊢|refine yAj ?_;refine yAa (yAy (nd:=⟨b,yk,yv,yl,yr,yh,ys⟩) rfl xS (g1 _ hm) rfl) ?_|refine xst ?_|refine xsa ?_;intro _|refine xsb ?_ ?_<;>intro _<;>try omega|refine xsc ?_|refine xdr 3 yCv ?_|refine xdr 4 yFp ?_|refine xdr 6 yFq ?_|refine xdr 8 yCv ?_|refine xdr 9 yFr ?_|refine xdr 11 yFs ?_|refine xsd ?_ ?_|exact Rech.nil|fail)
    all_goals (exact xdn ⟨(N2,p2),fun y hy=>g2 y (g1 y hy),t2⟩)
   ·have q3:decide (((tr.tall:Nat):Int)≤((tl.tall:Nat):Int))=false:=zZ zO
    cases tr with
    |nil=>exact absurd hc2 (by simp only [Tr.t0];omega)
    |node ml zk zv mr zh zs=>
     obtain ⟨d,zl,zr,hze,hmz,hzl,hzr⟩:=hyr
     subst hze
     obtain ⟨m1,m2,m3,m4,m5,m6⟩:=Tr.child k2
     rw [Tr.tn] at c4 q3
     simp only [Tr.tn] at hc2
     have k4:zh≤yh:=k4
     have k6:zs≤ys:=k6
     have he:Tr.level (.node tl yk yv (.node ml zk zv mr zh zs) yh ys) k v r=Tr.join (Tr.join tl yk yv ml) zk zv (Tr.join mr k v r):=by unfold Tr.level;exact (if_pos (by simp only [Tr.tn];exact hc)).trans (if_neg (by simp only [Tr.tn];exact hc2))
     have b1:=yEx tl ml yk yv
     have b2:=yFR tl ml yk yv
     have b3:=yEx mr r k v
     have b4:=yFR mr r k v
     rw [he]
     refine Ct.enter func158 rfl ntmps158 zW (fun R=>?_)
     repeat' (first|(refine yAb ?_;first|refine xca (yC9 (W:=W) (hyl) (hzl) zO zO zO zO) fun x=>?_;obtain ⟨⟨N1,p1⟩,g1,t1⟩:=x;dsimp only at g1 t1 ⊢;refine yCO ?_|refine xca c4 fun _=>?_|refine xca c3 fun _=>?_|refine xca c2 fun _=>?_|refine xca c1 fun _=>?_)|(refine yAj ?_;first|refine yAa (yAy (nd:=⟨d,zk,zv,zl,zr,zh,zs⟩) rfl xS hmz rfl) ?_|refine yAa (yAy (nd:=⟨b,yk,yv,yl,some ⟨d,0,none⟩,yh,ys⟩) rfl xS hm rfl) ?_)|refine yAa (yAd (r:=((r.tall+1:Nat):Int)) rfl rfl zO zO) ?_|refine yAa (yAe rfl rfl q1) ?_|refine yAa (yAm rfl rfl q3) ?_|refine xst ?_|refine xsa ?_;intro _|refine xsb ?_ ?_<;>intro _<;>try omega|refine xsc ?_|refine xdr 3 yCv ?_|refine xdr 4 yFp ?_|refine xdr 6 yFq ?_|refine xdr 8 yCv ?_|refine xdr 9 yFr ?_|refine xdr 11 yFs ?_|refine xsd ?_ ?_|exact Rech.nil|fail)
     refine Hold.mk ?_
     repeat' (first|refine yAb ?_;refine xca (yC9 (W:=W) (hzr.mono g1) (hr.mono g1) zO zO zO zO) fun x=>?_;obtain ⟨⟨N2,p2⟩,g2,t2⟩:=x;dsimp only at g2 t2 ⊢;refine yCO ?_|(refine yAj ?_;first|refine yAa (yAy (nd:=⟨d,zk,zv,zl,zr,zh,zs⟩) rfl xS (g1 _ hmz) rfl) ?_|refine yAa (yAy (nd:=⟨b,yk,yv,yl,some ⟨d,0,none⟩,yh,ys⟩) rfl xS (g1 _ hm) rfl) ?_)|refine xst ?_|refine xsa ?_;intro _|refine xsb ?_ ?_<;>intro _<;>try omega|refine xsc ?_|refine xdr 3 yCv ?_|refine xdr 4 yFp ?_|refine xdr 6 yFq ?_|refine xdr 8 yCv ?_|refine xdr 9 yFr ?_|refine xdr 11 yFs ?_|refine xsd ?_ ?_|exact Rech.nil|fail)
     refine Hold.mk ?_
     repeat' (first|refine yAb ?_;refine xca (yC9 (W:=W) (t1.mono g2) (t2) zO zO zO zO) fun x=>?_;obtain ⟨⟨N3,p3⟩,g3,t3⟩:=x;dsimp only at g3 t3 ⊢|(refine yAj ?_;first|refine yAa (yAy (nd:=⟨d,zk,zv,zl,zr,zh,zs⟩) rfl xS (g2 _ (g1 _ hmz)) rfl) ?_|refine yAa (yAy (nd:=⟨b,yk,yv,yl,some ⟨d,0,none⟩,yh,ys⟩) rfl xS (g2 _ (g1 _ hm)) rfl) ?_)|refine xst ?_|refine xsa ?_;intro _|refine xsb ?_ ?_<;>intro _<;>try omega|refine xsc ?_|refine xdr 3 yCv ?_|refine xdr 4 yFp ?_|refine xdr 6 yFq ?_|refine xdr 8 yCv ?_|refine xdr 9 yFr ?_|refine xdr 11 yFs ?_|refine xsd ?_ ?_|exact Rech.nil|fail)
     all_goals (exact xdn ⟨(N3,p3),fun y hy=>g3 y (g2 y (g1 y hy)),t3⟩)
 have hcn:=hc
 clear hc
 by_cases hc:l.tall+1<r.tall
 ·
  cases r with
  |nil=>exact absurd hc (by simp only [Tr.t0];omega)
  |node tl yk yv tr yh ys=>
   obtain ⟨b,yl,yr,rfl,hm,hyl,hyr⟩:=hr
   have hN:TrAt N (some ⟨b,0,none⟩) (.node tl yk yv tr yh ys):=⟨b,yl,yr,rfl,hm,hyl,hyr⟩
   obtain ⟨k1,k2,k3,k4,k5,k6⟩:=Tr.child or_
   rw [Tr.tn] at h2 c2
   simp only [Tr.tn] at hc hcn
   have c3:=yFt (W:=W) hyl
   have c4:=yFt (W:=W) hyr
   have h4:ys≤576460752303423488:=h4
   have h2:yh≤ys:=h2
   have q1:decide (((yh+1:Nat):Int)<((l.tall:Nat):Int))=false:=zZ zO
   have q2:decide (((l.tall+1:Nat):Int)<((yh:Nat):Int))=true:=zY zO
   by_cases hc2:tl.tall≤tr.tall
   ·have q3:decide (((tl.tall:Nat):Int)≤((tr.tall:Nat):Int))=true:=zY zO
    have he:Tr.level l k v (.node tl yk yv tr yh ys)=Tr.join (Tr.join l k v tl) yk yv tr:=by unfold Tr.level;exact (if_neg (by simp only [Tr.tn];exact hcn)).trans ((if_pos (by simp only [Tr.tn];exact hc)).trans (if_pos hc2))
    have b1:=yEx l tl k v
    have b2:=yFR l tl k v
    rw [he]
    refine Ct.enter func158 rfl ntmps158 zW (fun R=>?_)
    repeat' (first|(refine yAb ?_;first|refine xca (yC9 (W:=W) (hl) (hyl) zO zO zO zO) fun x=>?_;obtain ⟨⟨N1,p1⟩,g1,t1⟩:=x;dsimp only at g1 t1 ⊢;refine yCO ?_|refine xca c4 fun _=>?_|refine xca c3 fun _=>?_|refine xca c2 fun _=>?_|refine xca c1 fun _=>?_)|refine yAj ?_;refine yAa (yAy (nd:=⟨b,yk,yv,yl,yr,yh,ys⟩) rfl xS hm rfl) ?_|refine yAa (yAd (r:=((l.tall+1:Nat):Int)) rfl rfl zO zO) ?_|refine yAa (yAd (r:=((yh+1:Nat):Int)) rfl rfl zO zO) ?_|refine yAa (yAe rfl rfl q2) ?_|refine yAa (yAe rfl rfl q1) ?_|refine yAa (yAm rfl rfl q3) ?_|refine xst ?_|refine xsa ?_;intro _|refine xsb ?_ ?_<;>intro _<;>try omega|refine xsc ?_|refine xdr 3 yCv ?_|refine xdr 4 yFp ?_|refine xdr 6 yFq ?_|refine xdr 8 yCv ?_|refine xdr 9 yFr ?_|refine xdr 11 yFs ?_|refine xsd ?_ ?_|exact Rech.nil|fail)
    refine Hold.mk ?_
    repeat' (first|refine yAb ?_;refine xca (yC9 (W:=W) (t1) (hyr.mono g1) zO zO zO zO) fun x=>?_;obtain ⟨⟨N2,p2⟩,g2,t2⟩:=x;dsimp only at g2 t2 ⊢|refine yAj ?_;refine yAa (yAy (nd:=⟨b,yk,yv,yl,yr,yh,ys⟩) rfl xS (g1 _ hm) rfl) ?_|refine xst ?_|refine xsa ?_;intro _|refine xsb ?_ ?_<;>intro _<;>try omega|refine xsc ?_|refine xdr 3 yCv ?_|refine xdr 4 yFp ?_|refine xdr 6 yFq ?_|refine xdr 8 yCv ?_|refine xdr 9 yFr ?_|refine xdr 11 yFs ?_|refine xsd ?_ ?_|exact Rech.nil|fail)
    all_goals (exact xdn ⟨(N2,p2),fun y hy=>g2 y (g1 y hy),t2⟩)
   ·have q3:decide (((tl.tall:Nat):Int)≤((tr.tall:Nat):Int))=false:=zZ zO
    cases tl with
    |nil=>exact absurd hc2 (by simp only [Tr.t0];omega)
    |node ml zk zv mr zh zs=>
     obtain ⟨d,zl,zr,hze,hmz,hzl,hzr⟩:=hyl
     subst hze
     obtain ⟨m1,m2,m3,m4,m5,m6⟩:=Tr.child k1
     rw [Tr.tn] at c3 q3
     simp only [Tr.tn] at hc2
     have k3:zh≤yh:=k3
     have k5:zs≤ys:=k5
     have he:Tr.level l k v (.node (.node ml zk zv mr zh zs) yk yv tr yh ys)=Tr.join (Tr.join l k v ml) zk zv (Tr.join mr yk yv tr):=by unfold Tr.level;exact (if_neg (by simp only [Tr.tn];exact hcn)).trans ((if_pos (by simp only [Tr.tn];exact hc)).trans (if_neg (by simp only [Tr.tn];exact hc2)))
     have b1:=yEx l ml k v
     have b2:=yFR l ml k v
     have b3:=yEx mr tr yk yv
     have b4:=yFR mr tr yk yv
     rw [he]
     refine Ct.enter func158 rfl ntmps158 zW (fun R=>?_)
     repeat' (first|(refine yAb ?_;first|refine xca (yC9 (W:=W) (hl) (hzl) zO zO zO zO) fun x=>?_;obtain ⟨⟨N1,p1⟩,g1,t1⟩:=x;dsimp only at g1 t1 ⊢;refine yCO ?_|refine xca c4 fun _=>?_|refine xca c3 fun _=>?_|refine xca c2 fun _=>?_|refine xca c1 fun _=>?_)|(refine yAj ?_;first|refine yAa (yAy (nd:=⟨d,zk,zv,zl,zr,zh,zs⟩) rfl xS hmz rfl) ?_|refine yAa (yAy (nd:=⟨b,yk,yv,some ⟨d,0,none⟩,yr,yh,ys⟩) rfl xS hm rfl) ?_)|refine yAa (yAd (r:=((l.tall+1:Nat):Int)) rfl rfl zO zO) ?_|refine yAa (yAd (r:=((yh+1:Nat):Int)) rfl rfl zO zO) ?_|refine yAa (yAe rfl rfl q2) ?_|refine yAa (yAe rfl rfl q1) ?_|refine yAa (yAm rfl rfl q3) ?_|refine xst ?_|refine xsa ?_;intro _|refine xsb ?_ ?_<;>intro _<;>try omega|refine xsc ?_|refine xdr 3 yCv ?_|refine xdr 4 yFp ?_|refine xdr 6 yFq ?_|refine xdr 8 yCv ?_|refine xdr 9 yFr ?_|refine xdr 11 yFs ?_|refine xsd ?_ ?_|exact Rech.nil|fail)
     refine Hold.mk ?_
     repeat' (first|refine yAb ?_;refine xca (yC9 (W:=W) (hzr.mono g1) (hyr.mono g1) zO zO zO zO) fun x=>?_;obtain ⟨⟨N2,p2⟩,g2,t2⟩:=x;dsimp only at g2 t2 ⊢;refine yCO ?_|(refine yAj ?_;first|refine yAa (yAy (nd:=⟨d,zk,zv,zl,zr,zh,zs⟩) rfl xS (g1 _ hmz) rfl) ?_|refine yAa (yAy (nd:=⟨b,yk,yv,some ⟨d,0,none⟩,yr,yh,ys⟩) rfl xS (g1 _ hm) rfl) ?_)|refine xst ?_|refine xsa ?_;intro _|refine xsb ?_ ?_<;>intro _<;>try omega|refine xsc ?_|refine xdr 3 yCv ?_|refine xdr 4 yFp ?_|refine xdr 6 yFq ?_|refine xdr 8 yCv ?_|refine xdr 9 yFr ?_|refine xdr 11 yFs ?_|refine xsd ?_ ?_|exact Rech.nil|fail)
     refine Hold.mk ?_
     repeat' (first|refine yAb ?_;refine xca (yC9 (W:=W) (t1.mono g2) (t2) zO zO zO zO) fun x=>?_;obtain ⟨⟨N3,p3⟩,g3,t3⟩:=x;dsimp only at g3 t3 ⊢|(refine yAj ?_;first|refine yAa (yAy (nd:=⟨d,zk,zv,zl,zr,zh,zs⟩) rfl xS (g2 _ (g1 _ hmz)) rfl) ?_|refine yAa (yAy (nd:=⟨b,yk,yv,some ⟨d,0,none⟩,yr,yh,ys⟩) rfl xS (g2 _ (g1 _ hm)) rfl) ?_)|refine xst ?_|refine xsa ?_;intro _|refine xsb ?_ ?_<;>intro _<;>try omega|refine xsc ?_|refine xdr 3 yCv ?_|refine xdr 4 yFp ?_|refine xdr 6 yFq ?_|refine xdr 8 yCv ?_|refine xdr 9 yFr ?_|refine xdr 11 yFs ?_|refine xsd ?_ ?_|exact Rech.nil|fail)
     all_goals (exact xdn ⟨(N3,p3),fun y hy=>g3 y (g2 y (g1 y hy)),t3⟩)
 have he:Tr.level l k v r=Tr.join l k v r:=by unfold Tr.level;rw [if_neg hcn,if_neg hc]
 have q1:decide (((r.tall+1:Nat):Int)<((l.tall:Nat):Int))=false:=zZ zO
 have q2:decide (((l.tall+1:Nat):Int)<((r.tall:Nat):Int))=false:=zZ zO
 rw [he]
 refine Ct.enter func158 rfl ntmps158 zW (fun R=>?_)
 repeat' (first|(refine yAb ?_;first|refine xca (yC9 (W:=W) (hl) (hr) zO zO zO zO) fun x=>?_;obtain ⟨⟨N1,p1⟩,g1,t1⟩:=x;dsimp only at g1 t1 ⊢|refine xca c2 fun _=>?_|refine xca c1 fun _=>?_)|refine yAa (yAd (r:=((l.tall+1:Nat):Int)) rfl rfl zO zO) ?_|refine yAa (yAd (r:=((r.tall+1:Nat):Int)) rfl rfl zO zO) ?_|refine yAa (yAe rfl rfl q2) ?_|refine yAa (yAe rfl rfl q1) ?_|refine xst ?_|refine xsa ?_;intro _|refine xsb ?_ ?_<;>intro _<;>try omega|refine xsc ?_|refine xdr 3 yCv ?_|refine xdr 4 yFp ?_|refine xdr 6 yFq ?_|refine xdr 8 yCv ?_|refine xdr 9 yFr ?_|refine xdr 11 yFs ?_|refine xsd ?_ ?_|exact Rech.nil|fail)
 all_goals (exact xdn ⟨(N1,p1),g1,t1⟩)
end
end Go.Proofs.YtlnbkbfblhofbaaGreatDoor
