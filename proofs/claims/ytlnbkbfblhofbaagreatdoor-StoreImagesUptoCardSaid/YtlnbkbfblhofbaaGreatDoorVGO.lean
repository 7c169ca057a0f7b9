/-
  Gnl5, BaR2, RrA.
-/
import Derived.Laws.OwnMore
import Derived.Test.YtlnbkbfblhofbaaGreatDoorVDU
set_option maxHeartbeats 64000000
namespace Go.Proofs.YtlnbkbfblhofbaaGreatDoor
open Go Go.RowKit
open Go.Proofs.Tryz
abbrev yGe:Pl:=(.op 0 (.op 1 (.op 2 (.op 3 (.op 4 (.op 5 (.op 6 (.ef 7 [] (.ef 8 [] .nil)))))))))
section
variable {P:Program} {W:World} {n d:Nat} {E:Env} {H R:List SP} {k:KK} {t e:TypeId} {x y:Operand} {α:Type} {enc:α→List Value} {sz:Nat}
theorem EncOk.take_flat (K:EncOk enc sz) (l:List α) (i:Nat) (hi:i≤l.length):(l.flatMap enc).take (i*sz)=(l.take i).flatMap enc:=by
 have e:l.flatMap enc=(l.take i).flatMap enc++(l.drop i).flatMap enc:=by rw [← List.flatMap_append,zLu]
 have hl:((l.take i).flatMap enc).length=i*sz:=by rw [K.flat,zLg,Nat.min_eq_left hi]
 rw [e,List.take_left' hl]
theorem yTg {g i c m c2:Nat} {l:List α} (K:EncOk enc sz) (hx:Env.ev E x=some (.slice (some ⟨g,0,none⟩) i c)) (hy:Env.ev E y=some (.slice (some (yKh g 0 (i+1) c sz)) m c2)) (hm:m=l.length-(i+1)) [hu:UIs P t (.slice e)] [hs:SzIs P e sz]
 (hsel:Sel (lsP enc e sz (.slice (some ⟨g,0,none⟩) l.length c) l) H R) (hi:i<l.length) (hc:l.length≤c) (hn:Nat.blt d n=true)
 (h:KJ W n k ((d,.slice (some ⟨g,0,none⟩) (l.eraseIdx i).length c)::E) (lsP enc e sz (.slice (some ⟨g,0,none⟩) (l.eraseIdx i).length c) (l.eraseIdx i)::R)):KJ W n (.oper P (.call { callee:=.builtin .append,args:=#[x,y],argTypes:=#[t,t] }) (some d) k) E H:=by
 subst hm
 refine ⟨fun a w p s o ho hd=>?_⟩
 have hs:=hs.h
 replace hsel:=hsel.app (dm a.defers)
 have hrow:=s.row hsel
 cases hq:P.info? e with
 |none=>simp [hq] at hs
 |some it=>
  simp [hq] at hs
  have hlen:(l.eraseIdx i).length=i+(l.length-(i+1)):=by rw [List.length_eraseIdx,if_pos hi];omega
  have hflat:(l.eraseIdx i).flatMap enc=(l.take i).flatMap enc++(l.drop (i+1)).flatMap enc:=by rw [List.eraseIdx_eq_take_drop_succ,List.flatMap_append]
  rcases hrow.2 with ⟨q,_⟩|⟨g',cap,cur,hv,hbg,hh,hle,hml,hsz,htk⟩
  ·cases q
  cases hv
  have hpre:w.ownsRow W.heap.size e sz (.slice (some ⟨g,0,none⟩) i c) i ((l.take i).flatMap enc):=by
   refine ⟨by rw [K.flat,zLg,Nat.min_eq_left zO],.inr ⟨g,c,cur,rfl,hbg,hh,zO,hml,hsz,?_⟩⟩
   have h2:=congrArg (List.take (i*sz)) htk
   rw [K.take_flat l i zO,List.take_take,Nat.min_eq_left (zLt _ zO)] at h2
   exact h2
  obtain ⟨w',hrun,hown,hgrow⟩:=run_append_fits (P:=P) w W.heap.size t o.type e it sz hu.h hq hs g i c _ hpre (yKh g 0 (i+1) c sz) (l.length-(i+1)) c2 ((l.drop (i+1)).flatMap enc) (by rw [K.flat,zLf]) (fun j u hj=>by
   have hlt:i+1<l.length:=by
    rcases Nat.lt_or_ge (i+1) l.length with h|h
    ·exact h
    ·rw [zLl h] at hj;simp at hj
   have:=hrow.cells (g:=g) rfl _ u (K.drop_at zO hj)
   unfold yKh
   rw [if_neg zO,Addr.add_mid]
   rw [Addr.add_mid] at this
   rwa [zLq] at this ⊢) (K.all _).all zO
  rw [← hlen,← hflat] at hown
  rw [← hlen] at hrun
  show uponP P o a _ ((execOp a.eval o).run P w)
  have hr2:(execOp a.eval o).run P w=.ok (.value (.slice (some ⟨g,0,none⟩) (l.eraseIdx i).length c)) w':=by
   simp only [execOp,ho,resolve,invoke,builtin,Sem.run_bind,Sem.run_pure,Result.andThen_ok,List.map_toArray,List.map_cons,List.map_nil,p.ev hx,p.ev hy,hrun]
  rw [hr2]
  have st:St W (lsP enc e sz (.slice (some ⟨g,0,none⟩) (l.eraseIdx i).length c) (l.eraseIdx i)::(R++dm a.defers)) w':=by
   obtain ⟨g1,g2,dj,hA,hH,l1,l2⟩:=(show St W ([lsP enc e sz (.slice (some ⟨g,0,none⟩) l.length c) l]++(R++dm a.defers)) w from s.perm hsel.perm).split
   have yCO:∃ o,g1 g=some o:=by
    obtain ⟨ha,_,_,le,_,⟨_,hd⟩,_⟩:=hA
    rcases hd with ⟨hv0,_⟩|⟨g'',cap',cur',hv0,hh0,_⟩
    ·cases hv0
    ·cases hv0;exact ⟨_,le _ _ hh0⟩
   rcases hown.2 with ⟨q,_⟩|⟨g',cap,cur',hv,hbase,hh',hrest⟩
   ·cases q
   ·cases hv
    refine St.join (B:=[lsP enc e sz (.slice (some ⟨g,0,none⟩) (l.eraseIdx i).length c) (l.eraseIdx i)]) (g:=Hl.one g (.cells cur' e (0,0))) s.below dj hH l1 l2 (yBn ⟨hown.1,.inr ⟨g,c,cur',rfl,Hl.one_self _ _,hrest⟩⟩) hgrow.os hgrow.tape hgrow.output hgrow.size ?_ ?_ ?_
    ·intro kk o q;obtain ⟨rfl,rfl⟩:=Hl.one_some q;exact hh'
    ·intro kk o q;obtain ⟨rfl,rfl⟩:=Hl.one_some q;exact .inl yCO
    ·intro kk hk hn
     refine hgrow.block kk hk (fun e=>?_)
     cases e
     obtain ⟨o,ho⟩:=yCO
     rw [hn] at ho;cases ho
  have:=h.go _ w' (p.put (d:=some d) hn _) st
  rw [← hd] at this
  exact this
end
def shL {α:Type} (l:List α) (k:Nat) (y:α):List α:=l.take k++y::l.drop k
section
variable {α:Type}
theorem yX1 (l:List α) {k:Nat} (y:α) (h:k≤l.length):(shL l k y).length=l.length+1:=by
 unfold shL
 rw [zLa,zLj,zLg,zLf];omega
theorem yX2 (l:List α) {k:Nat} (y:α) (h:k<l.length):(shL l (k+1) y)[k]? = l[k]?:=by
 unfold shL
 rw [zLp (by rw [zLg];omega),List.getElem?_take,if_pos zO]
theorem yTh (l:List α) {k:Nat} (y x:α) (h:k≤l.length):(shL l k y).set k x=shL l k x:=by
 unfold shL
 rw [List.set_append_right _ _ (by rw [zLg];omega)]
 rw [zLg,Nat.min_eq_left h,Nat.sub_self]
 rfl
theorem yVx (l:List α) {k:Nat} {x:α} (hx:l[k]? = some x):shL l (k+1) x=shL l k x:=by
 obtain ⟨h,e⟩:=zLc.1 hx
 unfold shL
 rw [List.take_add_one,hx,List.drop_eq_getElem_cons h,e]
 simp
theorem yX3 (l:List α) (y:α):l++[y]=shL l l.length y:=by simp [shL]
end
theorem yTi {M:Rows} (hr:RisR M) {k:List UInt8} (h:yJY Prod.fst M k=true):∃ u,M[atB Prod.fst M k]? = some (k,u)∧M=M.take (atB Prod.fst M k)++(k,u)::M.drop (atB Prod.fst M k+1):=by
 obtain ⟨⟨y,u⟩,hy,e⟩:=(yLc hr k).1 h
 have e:y=k:=e
 subst e
 obtain ⟨hl,e2⟩:=zLc.1 hy
 refine ⟨u,hy,?_⟩
 conv=>lhs;rw [← zLu (atB Prod.fst M y) M,List.drop_eq_getElem_cons hl,e2]
theorem yX4 {M:Rows} (hr:RisR M) {k:List UInt8} (h:yJY Prod.fst M k=true):M.eraseIdx (atB Prod.fst M k)=yF6 M k:=by
 obtain ⟨u,-,e⟩:=yTi hr h
 rw [List.eraseIdx_eq_take_drop_succ]
 obtain ⟨A,hA⟩:∃ A,A=M.take (atB Prod.fst M k):=⟨_,rfl⟩
 obtain ⟨B,hB⟩:∃ B,B=M.drop (atB Prod.fst M k+1):=⟨_,rfl⟩
 rw [← hA,← hB] at e ⊢
 subst e
 obtain ⟨-,-,h3,h4⟩:=ris_mid.1 hr
 rw [yGT,if_pos rfl,yCS (yFL h3),yCS (yGQ h4)]
theorem yX5 {M:Rows} (hr:RisR M) {k v:List UInt8} (h:yJY Prod.fst M k=true):M.set (atB Prod.fst M k) (k,v)=yE4 M k v:=by
 obtain ⟨u,hu,e⟩:=yTi hr h
 have hl:=(zLc.1 hu).1
 rw [List.set_eq_take_append_cons_drop,if_pos hl]
 obtain ⟨A,hA⟩:∃ A,A=M.take (atB Prod.fst M k):=⟨_,rfl⟩
 obtain ⟨B,hB⟩:∃ B,B=M.drop (atB Prod.fst M k+1):=⟨_,rfl⟩
 rw [← hA,← hB] at e ⊢
 subst e
 rw [yWm _ hr]
theorem yX6 {M:Rows} {k v:List UInt8} (h:yJY Prod.fst M k=false):shL M (atB Prod.fst M k) (k,v)=yE4 M k v:=by
 unfold yE4
 rw [if_neg (by rw [h];decide),yLb]
 unfold shL
 simp
theorem yZw {M:Rows} {k:List UInt8} (h:yJY Prod.fst M k=false):yF6 M k=M:=by
 refine yCS ?_
 cases e:lk M k with
 |none=>rfl
 |some v=>rw [yWj,e] at h;cases h
section
variable {W:World}
set_option maxRecDepth 10000 in
theorem yHh (A B:SP) (a b:Option Addr) (c d:Nat) (r:Rows) (ops:List BOp) (hA:Lv W rC 2 A a r) (hB:Lv W opC 3 B b ops) (hr:RisR r) (hl:(r.length+ops.length)*32≤140737488355328) :
 Ct prog W 35 [.slice a r.length c,.slice b ops.length d] [A,B] (fun x:Option Addr × Nat=>.slice x.1 (yAJ r ops).length x.2) (fun x=>[A,B,lsP rC 62 2 (.slice x.1 (yAJ r ops).length x.2) (yAJ r ops)]):=by
 have b1:(([]:Rows).length+r.length)*32≤140737488355328:=by rw [List.length_nil];omega
 have b2:([]:Rows).length+r.length≤9223372036854775807:=by rw [List.length_nil];omega
 refine Ct.enter func35 rfl ntmps35 zW (fun R=>?_)
 refine KJ.lvOpen hA xS (fun b0 o0 ha0=>?_)
 repeat' (first|refine yAH ?_;refine yMF (l:=([]:Rows)) (l2:=r) yB2 rfl rfl rfl rfl xS (Src.lv hA ha0 xS) b1 b2 rfl (fun a1 c1=>?_)|refine yAF ?_;refine yDB rfl (fun g0=>?_)|refine xst ?_|refine xsa ?_;intro _|refine xsb ?_ ?_<;>intro _<;>try omega|refine xsc ?_|refine xdr 7 yGe ?_|refine xsd ?_ ?_|exact Rech.nil|fail)
 refine yAz (fun x:{x:Nat × Rows × Option Addr × Nat//x.1≤ops.length∧x.2.1=yAJ r (ops.take x.1)}=>[(5,.slice x.1.2.2.1 x.1.2.1.length x.1.2.2.2),(14,.slice b ops.length d),(15,.int .i64 (ops.length:Nat)),(16,.int .i64 (x.1.1:Nat))])
  (fun x=>[lsP rC 62 2 (.slice x.1.2.2.1 x.1.2.1.length x.1.2.2.2) x.1.2.1,A,B]++R) (fun x=>ops.length-x.1.1) ⟨(0,[]++r,a1,c1),zLA _,rfl⟩ xB (xN) (fun ⟨(i,M,sa,sc),hi,hM⟩=>?_)
 dsimp only at hi hM ⊢
 by_cases hlt:i<ops.length
 rotate_left
 ·have ql:decide ((i:Int)<(ops.length:Nat))=false:=zZ zO
  rw [zLi zO] at hM
  repeat' (first|refine yAa (yAc rfl rfl ql) ?_|refine xst ?_|refine xsa ?_;intro _|refine xsb ?_ ?_<;>intro _<;>try omega|refine xsc ?_|refine xdr 7 yGe ?_|refine xsd ?_ ?_|exact Rech.nil|fail)
  all_goals subst hM
  all_goals (exact xdn (sa,sc))
 have ql:decide ((i:Int)<(ops.length:Nat))=true:=zY zO
 obtain ⟨o,ho⟩:∃ s,ops[i]? = some s:=⟨_,zLb hlt⟩
 have hlen:=yCp (ops.take i) r
 rw [zLg,← hM] at hlen
 have hnx:=yJn (r:=r) ho
 have hMr:RisR M:=by rw [hM];exact yHE hr _
 rw [← hM] at hnx
 refine KJ.lvSome hB xS zO (fun bo oo hab=>?_)
 subst hab
 have hoff:oo+Int.toNat (i:Int)*3=oo+i*3:=zW
 obtain ⟨del,key,val⟩:=o
 have hat:=yO3 (f:=Prod.fst) M key
 have cp:=yS3 (W:=W) sa sc M hMr key zO
 have hcut:=fun h=>yX4 (M:=M) (k:=key) hMr h
 have hset:=fun h=>yX5 (M:=M) (k:=key) (v:=val) hMr h
 have hins:=fun h=>yX6 (M:=M) (k:=key) (v:=val) h
 have hrow:=fun h=>yTi (M:=M) (k:=key) hMr h
 obtain ⟨at_,hat_⟩:∃ n,n=atB Prod.fst M key:=⟨_,rfl⟩
 rw [← hat_] at hat cp hcut hset hins hrow
 refine KJ.lsOpen xS (fun a3 c3 he hcf=>?_)
 cases he
 cases hh:yJY Prod.fst M key with
 |true=>
  rw [hh] at cp
  obtain ⟨u,hu,-⟩:=hrow hh
  have hin:=(zLc.1 hu).1
  refine KJ.lsSome xS zO (fun g hg=>?_)
  subst hg
  cases del with
  |true=>
   have hnx:yAJ r (ops.take (i+1))=M.eraseIdx at_:=hnx.trans (hcut hh).symm
   repeat' (first|refine yAs ?_;refine yAq rfl (fun g7=>?_)|refine yAb ?_;refine xca cp fun _=>?_|refine yAH ?_;refine yTg (i:=at_) yB2 rfl rfl rfl xS hin hcf rfl ?_|refine yAj ?_;refine yAa (yBX yBy hB rfl rfl xS hoff ho) ?_|(refine yAQ ?_;first|refine yAa (yLn rfl rfl zO) ?_|refine yAa (yN0 rfl rfl zO) ?_)|refine yAa (yAd (r:=((at_+1:Nat):Int)) rfl rfl zO zO) ?_|refine yAa (yAd (r:=((i+1:Nat):Int)) rfl rfl zO zO) ?_|refine yAa (yAc rfl rfl ql) ?_|refine xst ?_|refine xsa ?_;intro _|refine xsb ?_ ?_<;>intro _<;>try omega|refine xsc ?_|refine xdr 7 yGe ?_|refine xsd ?_ ?_|exact Rech.nil|fail)
   all_goals refine yAp ⟨(i+1,M.eraseIdx at_,some ⟨g,0,none⟩,sc),hlt,hnx.symm⟩ (by show ops.length-(i+1)<ops.length-i;omega) xB (xN)
  |false=>
   have hnx:yAJ r (ops.take (i+1))=M.set at_ (key,val):=hnx.trans (hset hh).symm
   have ho1:0+Int.toNat ((at_:Nat):Int)*2+1=at_*2+1:=by rw [zLe];omega
   have he2:rC (key,val)=(rC (key,u)).set 1 (strV val):=rfl
   have hml:M.length=(M.set at_ (key,val)).length:=by rw [List.length_set]
   repeat' (first|refine yAw (id:=5) ?_;refine yCO ?_|refine yAs ?_;refine yAq rfl (fun g7=>?_)|refine yAj ?_;refine yAa (yBX yBy hB rfl rfl xS hoff ho) ?_|refine yAa (yAc rfl rfl ql) ?_|refine xst ?_|refine xsa ?_;intro _|refine xsb ?_ ?_<;>intro _<;>try omega|refine xsc ?_|refine xdr 7 yGe ?_|refine xsd ?_ ?_|exact Rech.nil|fail)
   refine Hold.mk ?_
   repeat' (first|refine yFJ ?_;refine yCO ?_|refine yAb ?_;refine xca cp fun _=>?_|refine xst ?_|refine xsa ?_;intro _|refine xsb ?_ ?_<;>intro _<;>try omega|refine xsc ?_|refine xdr 7 yGe ?_|refine xsd ?_ ?_|exact Rech.nil|fail)
   refine Hold.mk ?_
   refine yOh (t:=9) (v:=strV val) yB2 rfl rfl xS rfl ho1 hu zO he2 xF xO ?_
   rw [hml]
   repeat' (first|refine yAa (yAd (r:=((i+1:Nat):Int)) rfl rfl zO zO) ?_|refine xst ?_|refine xsa ?_;intro _|refine xsb ?_ ?_<;>intro _<;>try omega|refine xsc ?_|refine xdr 7 yGe ?_|refine xsd ?_ ?_|exact Rech.nil|fail)
   all_goals refine yAp ⟨(i+1,M.set at_ (key,val),some ⟨g,0,none⟩,sc),hlt,hnx.symm⟩ (by show ops.length-(i+1)<ops.length-i;omega) xB (xN)
 |false=>
  rw [hh] at cp
  cases del with
  |true=>
   have hnx:yAJ r (ops.take (i+1))=M:=hnx.trans (yZw hh)
   repeat' (first|refine yAs ?_;refine yAq rfl (fun g7=>?_)|refine yAb ?_;refine xca cp fun _=>?_|refine yAj ?_;refine yAa (yBX yBy hB rfl rfl xS hoff ho) ?_|refine yAa (yAd (r:=((i+1:Nat):Int)) rfl rfl zO zO) ?_|refine yAa (yAc rfl rfl ql) ?_|refine xst ?_|refine xsa ?_;intro _|refine xsb ?_ ?_<;>intro _<;>try omega|refine xsc ?_|refine xdr 7 yGe ?_|refine xsd ?_ ?_|exact Rech.nil|fail)
   all_goals refine yAp ⟨(i+1,M,sa,sc),hlt,hnx.symm⟩ (by show ops.length-(i+1)<ops.length-i;omega) xB (xN)
  |false=>
   have hnx:yAJ r (ops.take (i+1))=shL M at_ (key,val):=hnx.trans (hins hh).symm
   have bN:(M.length+1)*32≤140737488355328:=zO
   have bN2:M.length+1≤9223372036854775807:=zO
   have hN1:(M++[(([],[]):List UInt8 × List UInt8)]).length=M.length+1:=zW
   have hsubl:(((M++[(([],[]):List UInt8 × List UInt8)]).length:Nat):Int)-1=((M.length:Nat):Int):=by rw [hN1];omega
   repeat' (first|refine yAs ?_;refine yAq rfl (fun g7=>?_)|refine yAb ?_;refine xca cp fun _=>?_|refine yAH ?_;refine yBV (a:=(([],[]):List UInt8 × List UInt8)) yB2 rfl rfl rfl xS xS bN bN2 rfl (fun go co=>?_)|refine yAF ?_;refine yAI rfl xF (by rfl) zO rfl (fun gb=>?_)|refine yAj ?_;refine yAa (yBX yBy hB rfl rfl xS hoff ho) ?_|refine yAB ?_;refine yAa (yAC xV xW) ?_|refine yAa (yBG (r:=((M.length:Nat):Int)) rfl rfl hsubl zO) ?_|refine yAa (yAc rfl rfl ql) ?_|refine xst ?_|refine xsa ?_;intro _|refine xsb ?_ ?_<;>intro _<;>try omega|refine xsc ?_|refine xdr 7 yGe ?_|refine xsd ?_ ?_|exact Rech.nil|fail)
   refine yAz (fun x:{x:Nat × Rows//at_≤x.1∧x.1≤M.length∧∃ y,x.2=shL M x.1 y}=>[(5,.slice (some ⟨go,0,none⟩) (M++[(([],[]):List UInt8 × List UInt8)]).length co),(7,zPp g7),(8,.int .i64 (at_:Nat)),(10,.int .i64 (x.1.1:Nat)),(14,.slice (some ⟨bo,oo,none⟩) ops.length d),(15,.int .i64 (ops.length:Nat)),(16,.int .i64 (i:Nat))])
    (fun x=>[yAi g7 (opC ⟨false,key,val⟩) 60,lsP rC 62 2 (.slice (some ⟨go,0,none⟩) (M++[(([],[]):List UInt8 × List UInt8)]).length co) x.1.2,A,B]++R) (fun x=>x.1.1)
    ⟨(M.length,M++[([],[])]),hat,Nat.le_refl _,⟨_,yX3 _ _⟩⟩ xB (xN) (fun ⟨(k,L),hk1,hk2,⟨y1,e1⟩⟩=>?_)
   dsimp only at hk1 hk2 e1 ⊢
   have lN:(M++[(([],[]):List UInt8 × List UInt8)]).length=L.length:=by rw [hN1,e1,yX1 _ _ hk2]
   by_cases hlt2:at_<k
   ·obtain ⟨k,rfl⟩:∃ q,k=q+1:=⟨k-1,zO⟩
    have q3:decide ((at_:Int)<((k+1:Nat):Int))=true:=zY zO
    obtain ⟨x2,hx2⟩:∃ s,M[k]? = some s:=⟨_,zLb zO⟩
    have gx2:L[k]? = some x2:=by rw [e1,yX2 _ _ zO,hx2]
    have ok1:0+Int.toNat ((k:Nat):Int)*2=k*2:=by rw [zLe];omega
    have ok2:0+Int.toNat ((k+1:Nat):Int)*2=(k+1)*2:=by rw [zLe];omega
    have il:k+1<L.length:=by rw [← lN,hN1];omega
    repeat' (first|refine yFJ ?_;refine yKi (a:=x2) yB2 rfl rfl xS lN ok2 il ?_|refine yAj ?_;refine yAa (ySA yB2 rfl xS lN ok1 gx2) ?_|refine yAa (yBG (r:=((k:Nat):Int)) rfl rfl zO zO) ?_|refine yAa (yAe rfl rfl q3) ?_|refine xst ?_|refine xsa ?_;intro _|refine xsb ?_ ?_<;>intro _<;>try omega|refine xsc ?_|refine xdr 7 yGe ?_|refine xsd ?_ ?_|exact Rech.nil|fail)
    all_goals refine yAp ⟨(k,L.set (k+1) x2),by dsimp only;omega,by dsimp only;omega,⟨x2,by dsimp only;rw [e1,yTh _ _ _ zO,yVx _ hx2]⟩⟩ (by show k<k+1;omega) xB (xN)
   obtain rfl:k=at_:=zO
   have q3:decide ((k:Int)<((k:Nat):Int))=false:=zZ zO
   have ok2:0+Int.toNat ((k:Nat):Int)*2=k*2:=by rw [zLe];omega
   have il:k<L.length:=by rw [← lN,hN1];omega
   have f2:L.set k (key,val)=shL M k (key,val):=by rw [e1,yTh _ _ _ hk2]
   obtain ⟨M',hM'⟩:∃ M',M'=shL M k (key,val):=⟨_,rfl⟩
   rw [← hM'] at f2 hnx
   have m2:(M++[(([],[]):List UInt8 × List UInt8)]).length=M'.length:=by rw [lN,← f2,List.length_set]
   repeat' (first|refine yFJ ?_;refine yKi (a:=(key,val)) yB2 rfl rfl xS lN ok2 il ?_|refine yAB ?_;refine yAa (yAC xV xW) ?_|refine yAa (yAd (r:=((i+1:Nat):Int)) rfl rfl zO zO) ?_|refine yAa (yAe rfl rfl q3) ?_|refine xst ?_|refine xsa ?_;intro _|refine xsb ?_ ?_<;>intro _<;>try omega|refine xsc ?_|refine xdr 7 yGe ?_|refine xsd ?_ ?_|exact Rech.nil|fail)
   all_goals rw [f2,m2]
   all_goals refine yAp ⟨(i+1,M',some ⟨go,0,none⟩,co),hlt,hnx.symm⟩ (by show ops.length-(i+1)<ops.length-i;omega) xB (xN)
end
end Go.Proofs.YtlnbkbfblhofbaaGreatDoor
