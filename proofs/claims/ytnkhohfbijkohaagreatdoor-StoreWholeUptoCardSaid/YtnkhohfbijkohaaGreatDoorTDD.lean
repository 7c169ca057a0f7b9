/-
  TbP, TbW1, TbW2.
-/
import Derived.Test.YtnkhohfbijkohaaGreatDoorTCM
import Derived.Test.YtnkhohfbijkohaaGreatDoorTDA
set_option maxHeartbeats 64000000
namespace Go.Proofs.YtnkhohfbijkohaaGreatDoor
open Go Go.RowKit
abbrev plTDD0:Pl:=(.op 0 (.op 1 (.op 2 (.op 3 (.op 5 (.op 6 (.op 7 (.op 8 (.ef 4 [8,7,6,5] (.ef 9 [] (.op 10 .nil)))))))))))
abbrev plTDD1:Pl:=(.op 0 (.op 1 (.op 2 (.op 3 (.op 4 (.op 5 (.op 6 (.op 7 (.op 8 (.op 9 (.op 10 (.op 11 (.op 12 (.op 13 (.op 14 (.op 15 (.op 16 (.op 17 (.op 18 (.ef 19 [11,10,9,8,7,6,5,4,3,2,1,0] (.ef 20 [] (.op 21 .nil))))))))))))))))))))))
abbrev plTDD2:Pl:=(.op 0 (.op 1 (.op 2 (.op 3 (.op 4 (.op 5 (.op 6 (.op 7 (.op 8 (.op 9 (.op 10 (.op 11 (.op 12 (.op 13 (.op 14 (.op 15 (.op 17 (.op 18 (.op 19 (.op 20 (.op 21 (.op 22 (.op 23 (.op 24 (.op 25 (.op 26 (.op 27 (.op 28 (.op 29 (.op 30 (.op 31 (.ef 16 [31,30,29,28,27,26,25,24,23,22,21,20,19,18,17] (.ef 32 [24,23,22,21,20,19,18,17] (.ef 33 [] (.op 34 .nil)))))))))))))))))))))))))))))))))))
abbrev plTDD3:Pl:=(.op 0 (.op 1 (.op 2 (.op 3 (.op 4 (.op 5 (.op 6 (.op 8 (.op 9 (.op 10 (.op 11 (.op 12 (.op 13 (.op 14 (.op 15 (.op 16 (.op 17 (.op 18 (.op 19 (.ef 7 [19,18,17,16,15,14,13,12,11,10,9,8] (.ef 20 [] (.op 21 .nil))))))))))))))))))))))
abbrev plTDD4:Pl:=(.op 0 (.op 1 (.op 2 (.op 3 (.op 4 (.op 5 (.op 6 (.op 8 (.op 9 (.op 10 (.op 11 (.op 12 (.op 13 (.op 14 (.op 15 (.op 16 (.op 17 (.op 18 (.op 19 (.op 20 (.op 21 (.op 22 (.op 23 (.op 24 (.op 25 (.op 26 (.op 27 (.op 28 (.op 29 (.op 30 (.op 31 (.ef 7 [31,30,29,28,27,26,25,24,23,22,21,20,19,18,17,16,15,14,13,12,11,10,9,8] (.ef 32 [15,14,13,12,11,10,9,8] (.ef 33 [] (.op 34 .nil)))))))))))))))))))))))))))))))))))
structure Nd where
 b:Nat
 k:List UInt8
 v:List UInt8
 l:Option Addr
 r:Option Addr
 h:Nat
 s:Nat
def ndC (x:Nd):List Value:=[strV x.k,strV x.v,.pointer x.l,.pointer x.r,.int .i64 (x.h:Nat),.int .i64 (x.s:Nat)]
def arP (N:List Nd):SP:=⟨50,0,fun h=>∀ x ∈ N,h x.b=some (.cells (ndC x).toArray 309 (0,0))⟩
theorem arP_up {N:List Nd}:∀ h g,Hl.le h g→(arP N).ok h→(arP N).ok g:=fun _ _ le q x hx=>le _ _ (q x hx)
def TrAt (N:List Nd):Option Addr→Tr→Prop
 |a,.nil=>a=none
 |a,.node l k v r h s=>∃ b al ar,a=some ⟨b,0,none⟩∧⟨b,k,v,al,ar,h,s⟩ ∈ N∧TrAt N al l∧TrAt N ar r
theorem TrAt.mono {N N':List Nd} (h:∀ x ∈ N,x ∈ N'):∀ {t:Tr} {a:Option Addr},TrAt N a t→TrAt N' a t
 |.nil,_,q=>q
 |.node _ _ _ _ _ _,_,⟨b,al,ar,e,hm,q1,q2⟩=>⟨b,al,ar,e,h _ hm,q1.mono h,q2.mono h⟩
section
variable {P:Program} {W:World} {n d:Nat} {E:Env} {H H' R R':List SP} {k:KK} {t u e:TypeId} {x y z:Operand}
theorem zAy {nd:Nd} {N:List Nd} {j:Nat} {v:Value} (hx:Env.ev E x=some (.pointer (some ⟨nd.b,j,none⟩))) [hu:ScIs P t] (hs:Sel (arP N) H R) (hn:nd ∈ N) (hv:(ndC nd)[j]? = some v):Ev P W n E H (.load t x) v:=
 Ev.mk fun op hop ac w p s=>by
  obtain ⟨dd,hu,hd⟩:=hu.h
  obtain ⟨h,ha,l⟩:=s.sel hs arP_up
  have hb:=(l nd.b _ (ha nd hn)).2
  have hc:w.cell? ⟨nd.b,j,none⟩=some v:=by
   have hblk:Blk w nd.b (ndC nd) 309:=hb
   rw [hblk.cell];exact hv
  simp [execOp,hop,p.ev hx,run_loadAt_one w hc hu hd,Result.andThen]
theorem arAdd_star {N:List Nd} {nd:Nd}:∀ g,zBg (zAq nd.b (ndC nd) 309::arP N::H) g→zBg (arP (nd::N)::H) g:=fun g q=>by
 obtain ⟨h1,h2,dj,l1,l2,hA,hH⟩:=(zBt (A:=[zAq nd.b (ndC nd) 309,arP N]) (B:=H) g).1 q
 refine ⟨h1,h2,dj,l1,l2,?_,hH⟩
 obtain ⟨k1,k2,_,m1,m2,c1,c2⟩:=hA
 intro x hx
 rcases List.mem_cons.1 hx with e|e
 ·subst e;exact m1 _ _ c1
 ·exact m2 _ _ (starL_one' arP_up c2 x e)
theorem KJ.arAdd {N:List Nd} (nd:Nd) {g:Nat} {cs:List Value} {T:TypeId} (hg:nd.b=g) (hcs:ndC nd=cs) (hT:T=309) (p:Pick [zAq g cs T,arP N] H R) (h:KJ W n k E (arP (nd::N)::R)):KJ W n k E H:=by
 subst hg hcs hT
 exact ⟨fun a w q s=>h.go a w q ((s.perm (p.perm.append_right _)).mono arAdd_star)⟩
theorem arNil_star:∀ g,zBg H g→zBg (arP []::H) g:=fun g q=>⟨fun _=>none,g,(fun _ _ q=>by cases q),(fun _ _ q=>by cases q),.rfl,(by intro x hx;cases hx),q⟩
theorem KJ.arNil (h:KJ W n k E (arP []::H)):KJ W n k E H:=⟨fun a w q s=>h.go a w q (s.mono arNil_star)⟩
end
abbrev Grew (N:List Nd) (t:Tr):Type:={x:List Nd × Option Addr//(∀ y ∈ N,y ∈ x.1)∧TrAt x.1 x.2 t}
theorem cmpV (a c:List UInt8):(Op.bytesLess a c=true∧Op.bytesLess c a=false)∨(Op.bytesLess a c=false∧Op.bytesLess c a=true)∨(Op.bytesLess a c=false∧Op.bytesLess c a=false):=by
 cases h:Op.bytesLess a c with
 |true=>exact .inl ⟨rfl,tl_asym h⟩
 |false=>cases h2:Op.bytesLess c a with
  |true=>exact .inr (.inl ⟨rfl,rfl⟩)
  |false=>exact .inr (.inr ⟨rfl,rfl⟩)
section
variable {W:World}
def cmpI (a c:List UInt8):Int:=if Op.bytesLess a c=true then -1 else if Op.bytesLess c a=true then 1 else 0
instance:FnIs Tryz.prog 274:=⟨by kernel_rfl⟩
instance:FnIs Tryz.prog 234:=⟨by kernel_rfl⟩
theorem isNaN_ct (a:List UInt8):Ct Tryz.prog W 274 [strV a] [] (fun _:Unit=>.bool false) (fun _=>[]):=by
 refine Ct.enter Tryz.func274 rfl Tryz.ntmps274 (by simp) (fun R=>?_)
 repeat' (first|(refine zBh ?_;refine zAc (Ev_neqS_f rfl rfl rfl) ?_)|refine xst ?_|(refine xsa ?_;intro _)|(refine xsb ?_ ?_ <;>intro _<;>try (exfalso;omega))|refine xsc ?_|fail)
 all_goals (exact xdn ())
theorem compare_ct (a c:List UInt8):Ct Tryz.prog W 234 [strV a,strV c] [] (fun _:Unit=>.int .i64 (cmpI a c)) (fun _=>[]):=by
 have c1:=isNaN_ct (W:=W) a
 have c2:=isNaN_ct (W:=W) c
 have hg:(!(Op.bytesLess a c || decide (a=c)))=Op.bytesLess c a:=by rw [leq_not,Bool.not_not]
 rcases cmpV a c with ⟨h1,h2⟩|⟨h1,h2⟩|⟨h1,h2⟩
 ·have e:cmpI a c=-1:=by unfold cmpI;rw [if_pos h1]
  rw [e]
  refine Ct.enter Tryz.func234 rfl Tryz.ntmps234 (by simp) (fun R=>?_)
  repeat' (first|(refine zAd ?_;first|(refine zAa xE c2 xP rfl (fun _=>?_))|(refine zAa xE c1 xP rfl (fun _=>?_)))|(refine zAs ?_;refine zAc (Ev_lssS_q rfl rfl h1) ?_)|refine xst ?_|(refine xsa ?_;intro _)|(refine xsb ?_ ?_ <;>intro _<;>try (exfalso;omega))|refine xsc ?_|fail)
  all_goals (exact xdn ())
 ·have e:cmpI a c=1:=by unfold cmpI;rw [if_neg (by rw [h1];decide),if_pos h2]
  rw [e]
  rw [h2] at hg
  refine Ct.enter Tryz.func234 rfl Tryz.ntmps234 (by simp) (fun R=>?_)
  repeat' (first|(refine zAd ?_;first|(refine zAa xE c2 xP rfl (fun _=>?_))|(refine zAa xE c1 xP rfl (fun _=>?_)))|(refine zAs ?_;refine zAc (Ev_lssS_q rfl rfl h1) ?_)|(refine zBa ?_;refine zAc (Ev_gtrS_q rfl rfl hg) ?_)|refine xst ?_|(refine xsa ?_;intro _)|(refine xsb ?_ ?_ <;>intro _<;>try (exfalso;omega))|refine xsc ?_|fail)
  all_goals (exact xdn ())
 ·have e:cmpI a c=0:=by unfold cmpI;rw [if_neg (by rw [h1];decide),if_neg (by rw [h2];decide)]
  rw [e]
  rw [h2] at hg
  refine Ct.enter Tryz.func234 rfl Tryz.ntmps234 (by simp) (fun R=>?_)
  repeat' (first|(refine zAd ?_;first|(refine zAa xE c2 xP rfl (fun _=>?_))|(refine zAa xE c1 xP rfl (fun _=>?_)))|(refine zAs ?_;refine zAc (Ev_lssS_q rfl rfl h1) ?_)|(refine zBa ?_;refine zAc (Ev_gtrS_q rfl rfl hg) ?_)|refine xst ?_|(refine xsa ?_;intro _)|(refine xsb ?_ ?_ <;>intro _<;>try (exfalso;omega))|refine xsc ?_|fail)
  all_goals (exact xdn ())
end
end Go.Proofs.YtnkhohfbijkohaaGreatDoor
namespace Go.Proofs.YtnkhohfbijkohaaGreatDoor
open Go Go.RowKit
section
variable {W:World} {N:List Nd} {a c:Option Addr} {l r t:Tr} {k v:List UInt8}
theorem tall_ct (hT:TrAt N a t):Ct Tryz.prog W 277 [.pointer a] [arP N] (fun _:Unit=>.int .i64 (t.tall:Nat)) (fun _=>[arP N]):=by
 cases t with
 |nil=>
  cases hT
  refine Ct.enter Tryz.func277 rfl Tryz.ntmps277 (by simp) (fun R=>?_)
  repeat' (first|refine xst ?_|(refine xsa ?_;intro _)|(refine xsb ?_ ?_ <;>intro _<;>try (exfalso;omega))|refine xsc ?_|fail)
  all_goals (exact xdn ())
 |node tl tk tv tr th ts=>
  obtain ⟨b,al,ar,rfl,hm,-,-⟩:=hT
  refine Ct.enter Tryz.func277 rfl Tryz.ntmps277 (by simp) (fun R=>?_)
  repeat' (first|(refine zAh ?_;refine zAc (zAy (nd:=⟨b,tk,tv,al,ar,th,ts⟩) rfl xS hm rfl) ?_)|refine xst ?_|(refine xsa ?_;intro _)|(refine xsb ?_ ?_ <;>intro _<;>try (exfalso;omega))|refine xsc ?_|fail)
  all_goals (exact xdn ())
theorem ncount_ct (hT:TrAt N a t):Ct Tryz.prog W 190 [.pointer a] [arP N] (fun _:Unit=>.int .i64 (t.cnt:Nat)) (fun _=>[arP N]):=by
 cases t with
 |nil=>
  cases hT
  refine Ct.enter Tryz.func190 rfl Tryz.ntmps190 (by simp) (fun R=>?_)
  repeat' (first|refine xst ?_|(refine xsa ?_;intro _)|(refine xsb ?_ ?_ <;>intro _<;>try (exfalso;omega))|refine xsc ?_|fail)
  all_goals (exact xdn ())
 |node tl tk tv tr th ts=>
  obtain ⟨b,al,ar,rfl,hm,-,-⟩:=hT
  refine Ct.enter Tryz.func190 rfl Tryz.ntmps190 (by simp) (fun R=>?_)
  repeat' (first|(refine zAh ?_;refine zAc (zAy (nd:=⟨b,tk,tv,al,ar,th,ts⟩) rfl xS hm rfl) ?_)|refine xst ?_|(refine xsa ?_;intro _)|(refine xsb ?_ ?_ <;>intro _<;>try (exfalso;omega))|refine xsc ?_|fail)
  all_goals (exact xdn ())
theorem join_ct (hl:TrAt N a l) (hr:TrAt N c r) (h1:l.tall≤2305843009213693952) (h2:r.tall≤2305843009213693952) (h3:l.cnt≤2305843009213693952) (h4:r.cnt≤2305843009213693952) :
 Ct Tryz.prog W 245 [.pointer a,strV k,strV v,.pointer c] [arP N] (fun x:Grew N (Tr.join l k v r)=>.pointer x.1.2) (fun x=>[arP x.1.1]):=by
 have c1:=tall_ct (W:=W) hl
 have c2:=tall_ct (W:=W) hr
 have c3:=ncount_ct (W:=W) hl
 have c4:=ncount_ct (W:=W) hr
 obtain ⟨tl,htl⟩:∃ x,x=l.tall:=⟨_,rfl⟩
 obtain ⟨tr,htr⟩:∃ x,x=r.tall:=⟨_,rfl⟩
 obtain ⟨nl,hnl⟩:∃ x,x=l.cnt:=⟨_,rfl⟩
 obtain ⟨nr,hnr⟩:∃ x,x=r.cnt:=⟨_,rfl⟩
 rw [← htl] at h1 c1
 rw [← htr] at h2 c2
 rw [← hnl] at h3 c3
 rw [← hnr] at h4 c4
 have hmx:max ((tl:Nat):Int) ((tr:Nat):Int)=((max tl tr:Nat):Int):=by omega
 refine Ct.enter Tryz.func245 rfl Tryz.ntmps245 (by simp) (fun R=>?_)
 repeat' (first|(refine is_box ?_;refine KJ_box rfl xF rfl (fun g=>?_);refine KJ.arAdd ⟨g,k,v,a,c,max tl tr+1,nl+nr+1⟩ rfl rfl rfl xP ?_)|(refine zAd ?_;first|(refine zAa xE c4 xP rfl (fun _=>?_))|(refine zAa xE c3 xP rfl (fun _=>?_))|(refine zAa xE c2 xP rfl (fun _=>?_))|(refine zAa xE c1 xP rfl (fun _=>?_)))|(refine ek_build ?_;refine zAc (Ev_build xV xW) ?_)|(refine ek_max ?_;refine zAc (Ev_max_w rfl rfl hmx) ?_)|(refine zBk ?_;first|refine zAc (zAi (r:=((nl+nr+1:Nat):Int)) rfl rfl (by omega) (by omega)) ?_|refine zAc (zAi (r:=((nl+nr:Nat):Int)) rfl rfl (by omega) (by omega)) ?_|refine zAc (zAi (r:=((max tl tr+1:Nat):Int)) rfl rfl (by omega) (by omega)) ?_)|refine xst ?_|(refine xsa ?_;intro _)|(refine xsb ?_ ?_ <;>intro _<;>try (exfalso;omega))|refine xsc ?_|fail)
 all_goals (exact xdn ⟨(⟨g,k,v,a,c,max tl tr+1,nl+nr+1⟩::N,some ⟨g,0,none⟩),fun y hy=>List.mem_cons_of_mem _ hy,⟨g,a,c,rfl,by rw [htl,htr,hnl,hnr];exact List.mem_cons_self ..,hl.mono fun y hy=>List.mem_cons_of_mem _ hy,hr.mono fun y hy=>List.mem_cons_of_mem _ hy⟩⟩)
end
end Go.Proofs.YtnkhohfbijkohaaGreatDoor
namespace Go.Proofs.YtnkhohfbijkohaaGreatDoor
open Go Go.RowKit
theorem Tr.child {l r:Tr} {k v:List UInt8} {h s:Nat} (q:(Tr.node l k v r h s).Ok):l.Ok∧r.Ok∧l.tall≤h∧r.tall≤h∧l.cnt≤s∧r.cnt≤s:=⟨q.1,q.2.1,by have:=q.2.2.1;omega,by have:=q.2.2.1;omega,by have:=q.2.2.2.1;omega,by have:=q.2.2.2.1;omega⟩
theorem join_tall (l r:Tr) (k v:List UInt8):(Tr.join l k v r).tall=max l.tall r.tall+1:=rfl
theorem join_cnt (l r:Tr) (k v:List UInt8):(Tr.join l k v r).cnt=l.cnt+r.cnt+1:=rfl
section
variable {W:World} {N:List Nd} {a c:Option Addr} {l r t:Tr} {k v:List UInt8}
theorem level_ct (hl:TrAt N a l) (hr:TrAt N c r) (ol:l.Ok) (or_:r.Ok) (h3:l.cnt≤576460752303423488) (h4:r.cnt≤576460752303423488) :
 Ct Tryz.prog W 244 [.pointer a,strV k,strV v,.pointer c] [arP N] (fun x:Grew N (Tr.level l k v r)=>.pointer x.1.2) (fun x=>[arP x.1.1]):=by
 have h1:=Tr.tall_cnt ol
 have h2:=Tr.tall_cnt or_
 have c1:=tall_ct (W:=W) hl
 have c2:=tall_ct (W:=W) hr
 by_cases hc:r.tall+1<l.tall
 ·have hcn:True:=trivial
  cases l with
  |nil=>exact absurd hc (by simp only [Tr.t0];omega)
  |node tl yk yv tr yh ys=>
   obtain ⟨b,yl,yr,rfl,hm,hyl,hyr⟩:=hl
   have hN:TrAt N (some ⟨b,0,none⟩) (.node tl yk yv tr yh ys):=⟨b,yl,yr,rfl,hm,hyl,hyr⟩
   obtain ⟨k1,k2,k3,k4,k5,k6⟩:=Tr.child ol
   rw [Tr.tn] at h1 c1
   simp only [Tr.tn] at hc hcn
   have c3:=tall_ct (W:=W) hyl
   have c4:=tall_ct (W:=W) hyr
   have h3:ys≤576460752303423488:=h3
   have h1:yh≤ys:=h1
   have q1:decide (((r.tall+1:Nat):Int)<((yh:Nat):Int))=true:=decide_eq_true (by omega)
   by_cases hc2:tr.tall≤tl.tall
   ·have q3:decide (((tr.tall:Nat):Int)≤((tl.tall:Nat):Int))=true:=decide_eq_true (by omega)
    have he:Tr.level (.node tl yk yv tr yh ys) k v r=Tr.join tl yk yv (Tr.join tr k v r):=by unfold Tr.level;exact (if_pos (by simp only [Tr.tn];exact hc)).trans (if_pos hc2)
    have b1:=join_tall tr r k v
    have b2:=join_cnt tr r k v
    rw [he]
    refine Ct.enter Tryz.func244 rfl Tryz.ntmps244 (by simp) (fun R=>?_)
    repeat' (first|(refine zAd ?_;first|(refine zAa xE (join_ct (W:=W) (hyr) (hr) (by omega) (by omega) (by omega) (by omega)) xP rfl (fun x=>?_);obtain ⟨⟨N1,p1⟩,g1,t1⟩:=x;dsimp only at g1 t1 ⊢;refine hold ?_)|(refine zAa xE c4 xP rfl (fun _=>?_))|(refine zAa xE c3 xP rfl (fun _=>?_))|(refine zAa xE c2 xP rfl (fun _=>?_))|(refine zAa xE c1 xP rfl (fun _=>?_)))|(refine zAh ?_;refine zAc (zAy (nd:=⟨b,yk,yv,yl,yr,yh,ys⟩) rfl xS hm rfl) ?_)|(refine zBk ?_;refine zAc (zAi (r:=((r.tall+1:Nat):Int)) rfl rfl (by omega) (by omega)) ?_)|(refine zBa ?_;refine zAc (zAg rfl rfl q1) ?_)|(refine ek_geq ?_;refine zAc (zBr rfl rfl q3) ?_)|refine xst ?_|(refine xsa ?_;intro _)|(refine xsb ?_ ?_ <;>intro _<;>try (exfalso;omega))|refine xsc ?_|(refine zAb (id:=3) plTDD0 (by kernel_rfl) (by kernel_rfl) ?_)|(refine zAb (id:=4) plTDD1 (by kernel_rfl) (by kernel_rfl) ?_)|(refine zAb (id:=6) plTDD2 (by kernel_rfl) (by kernel_rfl) ?_)|(refine zAb (id:=8) plTDD0 (by kernel_rfl) (by kernel_rfl) ?_)|(refine zAb (id:=9) plTDD3 (by kernel_rfl) (by kernel_rfl) ?_)|(refine zAb (id:=11) plTDD4 (by kernel_rfl) (by kernel_rfl) ?_)|refine zAn ?_ ?_|refine zAm rfl rfl rfl rfl rfl ?_ ?_|refine zAf ?_ ?_|exact Rech.nil|fail)
    refine Hold.mk ?_
    repeat' (first|(refine zAd ?_;refine zAa xE (join_ct (W:=W) (hyl.mono g1) (t1) (by omega) (by omega) (by omega) (by omega)) xP rfl (fun x=>?_);obtain ⟨⟨N2,p2⟩,g2,t2⟩:=x;dsimp only at g2 t2 ⊢)|(refine zAh ?_;refine zAc (zAy (nd:=⟨b,yk,yv,yl,yr,yh,ys⟩) rfl xS (g1 _ hm) rfl) ?_)|refine xst ?_|(refine xsa ?_;intro _)|(refine xsb ?_ ?_ <;>intro _<;>try (exfalso;omega))|refine xsc ?_|(refine zAb (id:=3) plTDD0 (by kernel_rfl) (by kernel_rfl) ?_)|(refine zAb (id:=4) plTDD1 (by kernel_rfl) (by kernel_rfl) ?_)|(refine zAb (id:=6) plTDD2 (by kernel_rfl) (by kernel_rfl) ?_)|(refine zAb (id:=8) plTDD0 (by kernel_rfl) (by kernel_rfl) ?_)|(refine zAb (id:=9) plTDD3 (by kernel_rfl) (by kernel_rfl) ?_)|(refine zAb (id:=11) plTDD4 (by kernel_rfl) (by kernel_rfl) ?_)|refine zAn ?_ ?_|refine zAm rfl rfl rfl rfl rfl ?_ ?_|refine zAf ?_ ?_|exact Rech.nil|fail)
    all_goals (exact xdn ⟨(N2,p2),fun y hy=>g2 y (g1 y hy),t2⟩)
   ·have q3:decide (((tr.tall:Nat):Int)≤((tl.tall:Nat):Int))=false:=decide_eq_false (by omega)
    cases tr with
    |nil=>exact absurd hc2 (by simp only [Tr.t0];omega)
    |node ml zk zv mr zh zs=>
     obtain ⟨d,zl,zr,hze,hmz,hzl,hzr⟩:=hyr
     subst hze
     obtain ⟨m1,m2,m3,m4,m5,m6⟩:=Tr.child k2
     rw [Tr.tn] at c4 q3
     simp only [Tr.tn] at hc2
     have k4:zh≤yh:=k4
     have k6:zs≤ys:=k6
     have he:Tr.level (.node tl yk yv (.node ml zk zv mr zh zs) yh ys) k v r=Tr.join (Tr.join tl yk yv ml) zk zv (Tr.join mr k v r):=by unfold Tr.level;exact (if_pos (by simp only [Tr.tn];exact hc)).trans (if_neg (by simp only [Tr.tn];exact hc2))
     have b1:=join_tall tl ml yk yv
     have b2:=join_cnt tl ml yk yv
     have b3:=join_tall mr r k v
     have b4:=join_cnt mr r k v
     rw [he]
     refine Ct.enter Tryz.func244 rfl Tryz.ntmps244 (by simp) (fun R=>?_)
     repeat' (first|(refine zAd ?_;first|(refine zAa xE (join_ct (W:=W) (hyl) (hzl) (by omega) (by omega) (by omega) (by omega)) xP rfl (fun x=>?_);obtain ⟨⟨N1,p1⟩,g1,t1⟩:=x;dsimp only at g1 t1 ⊢;refine hold ?_)|(refine zAa xE c4 xP rfl (fun _=>?_))|(refine zAa xE c3 xP rfl (fun _=>?_))|(refine zAa xE c2 xP rfl (fun _=>?_))|(refine zAa xE c1 xP rfl (fun _=>?_)))|(refine zAh ?_;first|refine zAc (zAy (nd:=⟨d,zk,zv,zl,zr,zh,zs⟩) rfl xS hmz rfl) ?_|refine zAc (zAy (nd:=⟨b,yk,yv,yl,some ⟨d,0,none⟩,yh,ys⟩) rfl xS hm rfl) ?_)|(refine zBk ?_;refine zAc (zAi (r:=((r.tall+1:Nat):Int)) rfl rfl (by omega) (by omega)) ?_)|(refine zBa ?_;refine zAc (zAg rfl rfl q1) ?_)|(refine ek_geq ?_;refine zAc (zBr rfl rfl q3) ?_)|refine xst ?_|(refine xsa ?_;intro _)|(refine xsb ?_ ?_ <;>intro _<;>try (exfalso;omega))|refine xsc ?_|(refine zAb (id:=3) plTDD0 (by kernel_rfl) (by kernel_rfl) ?_)|(refine zAb (id:=4) plTDD1 (by kernel_rfl) (by kernel_rfl) ?_)|(refine zAb (id:=6) plTDD2 (by kernel_rfl) (by kernel_rfl) ?_)|(refine zAb (id:=8) plTDD0 (by kernel_rfl) (by kernel_rfl) ?_)|(refine zAb (id:=9) plTDD3 (by kernel_rfl) (by kernel_rfl) ?_)|(refine zAb (id:=11) plTDD4 (by kernel_rfl) (by kernel_rfl) ?_)|refine zAn ?_ ?_|refine zAm rfl rfl rfl rfl rfl ?_ ?_|refine zAf ?_ ?_|exact Rech.nil|fail)
     refine Hold.mk ?_
     repeat' (first|(refine zAd ?_;refine zAa xE (join_ct (W:=W) (hzr.mono g1) (hr.mono g1) (by omega) (by omega) (by omega) (by omega)) xP rfl (fun x=>?_);obtain ⟨⟨N2,p2⟩,g2,t2⟩:=x;dsimp only at g2 t2 ⊢;refine hold ?_)|(refine zAh ?_;first|refine zAc (zAy (nd:=⟨d,zk,zv,zl,zr,zh,zs⟩) rfl xS (g1 _ hmz) rfl) ?_|refine zAc (zAy (nd:=⟨b,yk,yv,yl,some ⟨d,0,none⟩,yh,ys⟩) rfl xS (g1 _ hm) rfl) ?_)|refine xst ?_|(refine xsa ?_;intro _)|(refine xsb ?_ ?_ <;>intro _<;>try (exfalso;omega))|refine xsc ?_|(refine zAb (id:=3) plTDD0 (by kernel_rfl) (by kernel_rfl) ?_)|(refine zAb (id:=4) plTDD1 (by kernel_rfl) (by kernel_rfl) ?_)|(refine zAb (id:=6) plTDD2 (by kernel_rfl) (by kernel_rfl) ?_)|(refine zAb (id:=8) plTDD0 (by kernel_rfl) (by kernel_rfl) ?_)|(refine zAb (id:=9) plTDD3 (by kernel_rfl) (by kernel_rfl) ?_)|(refine zAb (id:=11) plTDD4 (by kernel_rfl) (by kernel_rfl) ?_)|refine zAn ?_ ?_|refine zAm rfl rfl rfl rfl rfl ?_ ?_|refine zAf ?_ ?_|exact Rech.nil|fail)
     refine Hold.mk ?_
     repeat' (first|(refine zAd ?_;refine zAa xE (join_ct (W:=W) (t1.mono g2) (t2) (by omega) (by omega) (by omega) (by omega)) xP rfl (fun x=>?_);obtain ⟨⟨N3,p3⟩,g3,t3⟩:=x;dsimp only at g3 t3 ⊢)|(refine zAh ?_;first|refine zAc (zAy (nd:=⟨d,zk,zv,zl,zr,zh,zs⟩) rfl xS (g2 _ (g1 _ hmz)) rfl) ?_|refine zAc (zAy (nd:=⟨b,yk,yv,yl,some ⟨d,0,none⟩,yh,ys⟩) rfl xS (g2 _ (g1 _ hm)) rfl) ?_)|refine xst ?_|(refine xsa ?_;intro _)|(refine xsb ?_ ?_ <;>intro _<;>try (exfalso;omega))|refine xsc ?_|(refine zAb (id:=3) plTDD0 (by kernel_rfl) (by kernel_rfl) ?_)|(refine zAb (id:=4) plTDD1 (by kernel_rfl) (by kernel_rfl) ?_)|(refine zAb (id:=6) plTDD2 (by kernel_rfl) (by kernel_rfl) ?_)|(refine zAb (id:=8) plTDD0 (by kernel_rfl) (by kernel_rfl) ?_)|(refine zAb (id:=9) plTDD3 (by kernel_rfl) (by kernel_rfl) ?_)|(refine zAb (id:=11) plTDD4 (by kernel_rfl) (by kernel_rfl) ?_)|refine zAn ?_ ?_|refine zAm rfl rfl rfl rfl rfl ?_ ?_|refine zAf ?_ ?_|exact Rech.nil|fail)
     all_goals (exact xdn ⟨(N3,p3),fun y hy=>g3 y (g2 y (g1 y hy)),t3⟩)
 have hcn:=hc
 clear hc
 by_cases hc:l.tall+1<r.tall
 ·
  cases r with
  |nil=>exact absurd hc (by simp only [Tr.t0];omega)
  |node tl yk yv tr yh ys=>
   obtain ⟨b,yl,yr,rfl,hm,hyl,hyr⟩:=hr
   have hN:TrAt N (some ⟨b,0,none⟩) (.node tl yk yv tr yh ys):=⟨b,yl,yr,rfl,hm,hyl,hyr⟩
   obtain ⟨k1,k2,k3,k4,k5,k6⟩:=Tr.child or_
   rw [Tr.tn] at h2 c2
   simp only [Tr.tn] at hc hcn
   have c3:=tall_ct (W:=W) hyl
   have c4:=tall_ct (W:=W) hyr
   have h4:ys≤576460752303423488:=h4
   have h2:yh≤ys:=h2
   have q1:decide (((yh+1:Nat):Int)<((l.tall:Nat):Int))=false:=decide_eq_false (by omega)
   have q2:decide (((l.tall+1:Nat):Int)<((yh:Nat):Int))=true:=decide_eq_true (by omega)
   by_cases hc2:tl.tall≤tr.tall
   ·have q3:decide (((tl.tall:Nat):Int)≤((tr.tall:Nat):Int))=true:=decide_eq_true (by omega)
    have he:Tr.level l k v (.node tl yk yv tr yh ys)=Tr.join (Tr.join l k v tl) yk yv tr:=by unfold Tr.level;exact (if_neg (by simp only [Tr.tn];exact hcn)).trans ((if_pos (by simp only [Tr.tn];exact hc)).trans (if_pos hc2))
    have b1:=join_tall l tl k v
    have b2:=join_cnt l tl k v
    rw [he]
    refine Ct.enter Tryz.func244 rfl Tryz.ntmps244 (by simp) (fun R=>?_)
    repeat' (first|(refine zAd ?_;first|(refine zAa xE (join_ct (W:=W) (hl) (hyl) (by omega) (by omega) (by omega) (by omega)) xP rfl (fun x=>?_);obtain ⟨⟨N1,p1⟩,g1,t1⟩:=x;dsimp only at g1 t1 ⊢;refine hold ?_)|(refine zAa xE c4 xP rfl (fun _=>?_))|(refine zAa xE c3 xP rfl (fun _=>?_))|(refine zAa xE c2 xP rfl (fun _=>?_))|(refine zAa xE c1 xP rfl (fun _=>?_)))|(refine zAh ?_;refine zAc (zAy (nd:=⟨b,yk,yv,yl,yr,yh,ys⟩) rfl xS hm rfl) ?_)|(refine zBk ?_;first|refine zAc (zAi (r:=((l.tall+1:Nat):Int)) rfl rfl (by omega) (by omega)) ?_|refine zAc (zAi (r:=((yh+1:Nat):Int)) rfl rfl (by omega) (by omega)) ?_)|(refine zBa ?_;first|refine zAc (zAg rfl rfl q2) ?_|refine zAc (zAg rfl rfl q1) ?_)|(refine ek_geq ?_;refine zAc (zBr rfl rfl q3) ?_)|refine xst ?_|(refine xsa ?_;intro _)|(refine xsb ?_ ?_ <;>intro _<;>try (exfalso;omega))|refine xsc ?_|(refine zAb (id:=3) plTDD0 (by kernel_rfl) (by kernel_rfl) ?_)|(refine zAb (id:=4) plTDD1 (by kernel_rfl) (by kernel_rfl) ?_)|(refine zAb (id:=6) plTDD2 (by kernel_rfl) (by kernel_rfl) ?_)|(refine zAb (id:=8) plTDD0 (by kernel_rfl) (by kernel_rfl) ?_)|(refine zAb (id:=9) plTDD3 (by kernel_rfl) (by kernel_rfl) ?_)|(refine zAb (id:=11) plTDD4 (by kernel_rfl) (by kernel_rfl) ?_)|refine zAn ?_ ?_|refine zAm rfl rfl rfl rfl rfl ?_ ?_|refine zAf ?_ ?_|exact Rech.nil|fail)
    refine Hold.mk ?_
    repeat' (first|(refine zAd ?_;refine zAa xE (join_ct (W:=W) (t1) (hyr.mono g1) (by omega) (by omega) (by omega) (by omega)) xP rfl (fun x=>?_);obtain ⟨⟨N2,p2⟩,g2,t2⟩:=x;dsimp only at g2 t2 ⊢)|(refine zAh ?_;refine zAc (zAy (nd:=⟨b,yk,yv,yl,yr,yh,ys⟩) rfl xS (g1 _ hm) rfl) ?_)|refine xst ?_|(refine xsa ?_;intro _)|(refine xsb ?_ ?_ <;>intro _<;>try (exfalso;omega))|refine xsc ?_|(refine zAb (id:=3) plTDD0 (by kernel_rfl) (by kernel_rfl) ?_)|(refine zAb (id:=4) plTDD1 (by kernel_rfl) (by kernel_rfl) ?_)|(refine zAb (id:=6) plTDD2 (by kernel_rfl) (by kernel_rfl) ?_)|(refine zAb (id:=8) plTDD0 (by kernel_rfl) (by kernel_rfl) ?_)|(refine zAb (id:=9) plTDD3 (by kernel_rfl) (by kernel_rfl) ?_)|(refine zAb (id:=11) plTDD4 (by kernel_rfl) (by kernel_rfl) ?_)|refine zAn ?_ ?_|refine zAm rfl rfl rfl rfl rfl ?_ ?_|refine zAf ?_ ?_|exact Rech.nil|fail)
    all_goals (exact xdn ⟨(N2,p2),fun y hy=>g2 y (g1 y hy),t2⟩)
   ·have q3:decide (((tl.tall:Nat):Int)≤((tr.tall:Nat):Int))=false:=decide_eq_false (by omega)
    cases tl with
    |nil=>exact absurd hc2 (by simp only [Tr.t0];omega)
    |node ml zk zv mr zh zs=>
     obtain ⟨d,zl,zr,hze,hmz,hzl,hzr⟩:=hyl
     subst hze
     obtain ⟨m1,m2,m3,m4,m5,m6⟩:=Tr.child k1
     rw [Tr.tn] at c3 q3
     simp only [Tr.tn] at hc2
     have k3:zh≤yh:=k3
     have k5:zs≤ys:=k5
     have he:Tr.level l k v (.node (.node ml zk zv mr zh zs) yk yv tr yh ys)=Tr.join (Tr.join l k v ml) zk zv (Tr.join mr yk yv tr):=by unfold Tr.level;exact (if_neg (by simp only [Tr.tn];exact hcn)).trans ((if_pos (by simp only [Tr.tn];exact hc)).trans (if_neg (by simp only [Tr.tn];exact hc2)))
     have b1:=join_tall l ml k v
     have b2:=join_cnt l ml k v
     have b3:=join_tall mr tr yk yv
     have b4:=join_cnt mr tr yk yv
     rw [he]
     refine Ct.enter Tryz.func244 rfl Tryz.ntmps244 (by simp) (fun R=>?_)
     repeat' (first|(refine zAd ?_;first|(refine zAa xE (join_ct (W:=W) (hl) (hzl) (by omega) (by omega) (by omega) (by omega)) xP rfl (fun x=>?_);obtain ⟨⟨N1,p1⟩,g1,t1⟩:=x;dsimp only at g1 t1 ⊢;refine hold ?_)|(refine zAa xE c4 xP rfl (fun _=>?_))|(refine zAa xE c3 xP rfl (fun _=>?_))|(refine zAa xE c2 xP rfl (fun _=>?_))|(refine zAa xE c1 xP rfl (fun _=>?_)))|(refine zAh ?_;first|refine zAc (zAy (nd:=⟨d,zk,zv,zl,zr,zh,zs⟩) rfl xS hmz rfl) ?_|refine zAc (zAy (nd:=⟨b,yk,yv,some ⟨d,0,none⟩,yr,yh,ys⟩) rfl xS hm rfl) ?_)|(refine zBk ?_;first|refine zAc (zAi (r:=((l.tall+1:Nat):Int)) rfl rfl (by omega) (by omega)) ?_|refine zAc (zAi (r:=((yh+1:Nat):Int)) rfl rfl (by omega) (by omega)) ?_)|(refine zBa ?_;first|refine zAc (zAg rfl rfl q2) ?_|refine zAc (zAg rfl rfl q1) ?_)|(refine ek_geq ?_;refine zAc (zBr rfl rfl q3) ?_)|refine xst ?_|(refine xsa ?_;intro _)|(refine xsb ?_ ?_ <;>intro _<;>try (exfalso;omega))|refine xsc ?_|(refine zAb (id:=3) plTDD0 (by kernel_rfl) (by kernel_rfl) ?_)|(refine zAb (id:=4) plTDD1 (by kernel_rfl) (by kernel_rfl) ?_)|(refine zAb (id:=6) plTDD2 (by kernel_rfl) (by kernel_rfl) ?_)|(refine zAb (id:=8) plTDD0 (by kernel_rfl) (by kernel_rfl) ?_)|(refine zAb (id:=9) plTDD3 (by kernel_rfl) (by kernel_rfl) ?_)|(refine zAb (id:=11) plTDD4 (by kernel_rfl) (by kernel_rfl) ?_)|refine zAn ?_ ?_|refine zAm rfl rfl rfl rfl rfl ?_ ?_|refine zAf ?_ ?_|exact Rech.nil|fail)
     refine Hold.mk ?_
     repeat' (first|(refine zAd ?_;refine zAa xE (join_ct (W:=W) (hzr.mono g1) (hyr.mono g1) (by omega) (by omega) (by omega) (by omega)) xP rfl (fun x=>?_);obtain ⟨⟨N2,p2⟩,g2,t2⟩:=x;dsimp only at g2 t2 ⊢;refine hold ?_)|(refine zAh ?_;first|refine zAc (zAy (nd:=⟨d,zk,zv,zl,zr,zh,zs⟩) rfl xS (g1 _ hmz) rfl) ?_|refine zAc (zAy (nd:=⟨b,yk,yv,some ⟨d,0,none⟩,yr,yh,ys⟩) rfl xS (g1 _ hm) rfl) ?_)|refine xst ?_|(refine xsa ?_;intro _)|(refine xsb ?_ ?_ <;>intro _<;>try (exfalso;omega))|refine xsc ?_|(refine zAb (id:=3) plTDD0 (by kernel_rfl) (by kernel_rfl) ?_)|(refine zAb (id:=4) plTDD1 (by kernel_rfl) (by kernel_rfl) ?_)|(refine zAb (id:=6) plTDD2 (by kernel_rfl) (by kernel_rfl) ?_)|(refine zAb (id:=8) plTDD0 (by kernel_rfl) (by kernel_rfl) ?_)|(refine zAb (id:=9) plTDD3 (by kernel_rfl) (by kernel_rfl) ?_)|(refine zAb (id:=11) plTDD4 (by kernel_rfl) (by kernel_rfl) ?_)|refine zAn ?_ ?_|refine zAm rfl rfl rfl rfl rfl ?_ ?_|refine zAf ?_ ?_|exact Rech.nil|fail)
     refine Hold.mk ?_
     repeat' (first|(refine zAd ?_;refine zAa xE (join_ct (W:=W) (t1.mono g2) (t2) (by omega) (by omega) (by omega) (by omega)) xP rfl (fun x=>?_);obtain ⟨⟨N3,p3⟩,g3,t3⟩:=x;dsimp only at g3 t3 ⊢)|(refine zAh ?_;first|refine zAc (zAy (nd:=⟨d,zk,zv,zl,zr,zh,zs⟩) rfl xS (g2 _ (g1 _ hmz)) rfl) ?_|refine zAc (zAy (nd:=⟨b,yk,yv,some ⟨d,0,none⟩,yr,yh,ys⟩) rfl xS (g2 _ (g1 _ hm)) rfl) ?_)|refine xst ?_|(refine xsa ?_;intro _)|(refine xsb ?_ ?_ <;>intro _<;>try (exfalso;omega))|refine xsc ?_|(refine zAb (id:=3) plTDD0 (by kernel_rfl) (by kernel_rfl) ?_)|(refine zAb (id:=4) plTDD1 (by kernel_rfl) (by kernel_rfl) ?_)|(refine zAb (id:=6) plTDD2 (by kernel_rfl) (by kernel_rfl) ?_)|(refine zAb (id:=8) plTDD0 (by kernel_rfl) (by kernel_rfl) ?_)|(refine zAb (id:=9) plTDD3 (by kernel_rfl) (by kernel_rfl) ?_)|(refine zAb (id:=11) plTDD4 (by kernel_rfl) (by kernel_rfl) ?_)|refine zAn ?_ ?_|refine zAm rfl rfl rfl rfl rfl ?_ ?_|refine zAf ?_ ?_|exact Rech.nil|fail)
     all_goals (exact xdn ⟨(N3,p3),fun y hy=>g3 y (g2 y (g1 y hy)),t3⟩)
 have he:Tr.level l k v r=Tr.join l k v r:=by unfold Tr.level;rw [if_neg hcn,if_neg hc]
 have q1:decide (((r.tall+1:Nat):Int)<((l.tall:Nat):Int))=false:=decide_eq_false (by omega)
 have q2:decide (((l.tall+1:Nat):Int)<((r.tall:Nat):Int))=false:=decide_eq_false (by omega)
 rw [he]
 refine Ct.enter Tryz.func244 rfl Tryz.ntmps244 (by simp) (fun R=>?_)
 repeat' (first|(refine zAd ?_;first|(refine zAa xE (join_ct (W:=W) (hl) (hr) (by omega) (by omega) (by omega) (by omega)) xP rfl (fun x=>?_);obtain ⟨⟨N1,p1⟩,g1,t1⟩:=x;dsimp only at g1 t1 ⊢)|(refine zAa xE c2 xP rfl (fun _=>?_))|(refine zAa xE c1 xP rfl (fun _=>?_)))|(refine zBk ?_;first|refine zAc (zAi (r:=((l.tall+1:Nat):Int)) rfl rfl (by omega) (by omega)) ?_|refine zAc (zAi (r:=((r.tall+1:Nat):Int)) rfl rfl (by omega) (by omega)) ?_)|(refine zBa ?_;first|refine zAc (zAg rfl rfl q2) ?_|refine zAc (zAg rfl rfl q1) ?_)|refine xst ?_|(refine xsa ?_;intro _)|(refine xsb ?_ ?_ <;>intro _<;>try (exfalso;omega))|refine xsc ?_|(refine zAb (id:=3) plTDD0 (by kernel_rfl) (by kernel_rfl) ?_)|(refine zAb (id:=4) plTDD1 (by kernel_rfl) (by kernel_rfl) ?_)|(refine zAb (id:=6) plTDD2 (by kernel_rfl) (by kernel_rfl) ?_)|(refine zAb (id:=8) plTDD0 (by kernel_rfl) (by kernel_rfl) ?_)|(refine zAb (id:=9) plTDD3 (by kernel_rfl) (by kernel_rfl) ?_)|(refine zAb (id:=11) plTDD4 (by kernel_rfl) (by kernel_rfl) ?_)|refine zAn ?_ ?_|refine zAm rfl rfl rfl rfl rfl ?_ ?_|refine zAf ?_ ?_|exact Rech.nil|fail)
 all_goals (exact xdn ⟨(N1,p1),g1,t1⟩)
end
end Go.Proofs.YtnkhohfbijkohaaGreatDoor
