/-
  Gnl5, SlX, TxM, Open14, TxH1, TxS1, TxH2.
-/
import Derived.Test.YtgipenahkmbelaaGreatDoorTFE
import Derived.Laws.OwnMore
import Derived.Test.YtgipenahkmbelaaGreatDoorTEX
import Derived.Test.YtgipenahkmbelaaGreatDoorTFD
import Derived.Test.YtgipenahkmbelaaGreatDoorTFN
import Derived.Test.YtgipenahkmbelaaGreatDoorTEZ
import Derived.Test.YtgipenahkmbelaaGreatDoorTCP
import Derived.Test.YtgipenahkmbelaaGreatDoorTBX
import Derived.Test.YtgipenahkmbelaaGreatDoorTFL
import Derived.Test.YtgipenahkmbelaaGreatDoorTFT
set_option maxHeartbeats 64000000
namespace Go.Proofs.YtgipenahkmbelaaGreatDoor
open Go Go.RowKit
abbrev plTFZ0:Pl:=(.op 0 (.op 1 (.op 2 (.op 3 (.op 4 (.ef 5 [3,2,1,0] (.ef 6 [] (.op 7 .nil))))))))
abbrev plTFZ1:Pl:=(.op 0 (.op 1 (.op 2 (.op 3 (.op 4 (.op 5 (.op 6 (.op 7 (.op 8 .nil)))))))))
section
variable {P:Program} {W:World} {n d:Nat} {E:Env} {H R:List SP} {k:KK} {t e:TypeId} {x y:Operand} {α:Type} {enc:α→List Value} {sz:Nat}
theorem EncOk.take_flat (K:EncOk enc sz) (l:List α) (i:Nat) (hi:i≤l.length):(l.flatMap enc).take (i*sz)=(l.take i).flatMap enc:=by
 have e:l.flatMap enc=(l.take i).flatMap enc++(l.drop i).flatMap enc:=by rw [← List.flatMap_append,List.take_append_drop]
 have hl:((l.take i).flatMap enc).length=i*sz:=by rw [K.flat,List.length_take,Nat.min_eq_left hi]
 rw [e,List.take_left' hl]
end
end Go.Proofs.YtgipenahkmbelaaGreatDoor
namespace Go.Proofs.YtgipenahkmbelaaGreatDoor
open Go Go.RowKit
def subB (a:Option Addr) (i c s:Nat):Option Addr:=a.map fun A=>if c-i=0 then A else A.add (i*s)
section
variable {P:Program} {W:World} {n d:Nat} {E:Env} {H H' R:List SP} {k:KK} {t u e:TypeId} {x y z:Operand} {α:Type} {enc:α→List Value} {sz:Nat}
theorem Ev_sliceFromB {a:Option Addr} {i m c s:Nat} {ki:IntKind} (hx:Env.ev E x=some (.slice a m c)) (hy:Env.ev E y=some (.int ki ((i:Nat):Int))) [hu:UIs P t (.slice e)] [hi:SzIs P e s] (ha:a=none→c=0) (hb:i≤m) (hc:m≤c):Ev P W n E H (.slice t x (some y) none none) (.slice (subB a i c s) (m-i) (c-i)):=
 Ev.mk fun o ho ac w p _=>by
  have hi:=hi.h
  cases hq:P.info? e with
  |none=>simp [hq] at hi
  |some q=>
   have hi:q.size=s:=by simpa [hq] using hi
   cases a with
   |none=>
    have:=ha rfl
    have h1:m=0:=by omega
    have h2:i=0:=by omega
    subst this h1 h2
    simp [execOp,ho,p.ev hx,p.ev hy,Instr.sliceAt,Instr.slice,run_underlying hu.h,Instr.sliceBounds,Instr.sliceBound,asIntOf,sizeOf,typeInfo,hq,Result.andThen,subB]
   |some A=>
    by_cases h3:c-i=0
    ·have h3':c≤i:=by omega
     have h4:c=i:=by omega
     simp [execOp,ho,p.ev hx,p.ev hy,Instr.sliceAt,Instr.slice,run_underlying hu.h,Instr.sliceBounds,Instr.sliceBound,asIntOf,hb,sizeOf,typeInfo,hq,subB,h4]
    ·have h4:¬ c≤i:=by omega
     have h5:¬ c=i:=by omega
     simp [execOp,ho,p.ev hx,p.ev hy,Instr.sliceAt,Instr.slice,run_underlying hu.h,Instr.sliceBounds,Instr.sliceBound,asIntOf,hb,sizeOf,typeInfo,hq,hi,subB,h3,h5]
theorem Ev_sliceToB {a:Option Addr} {j m c s:Nat} {kj:IntKind} (hx:Env.ev E x=some (.slice a m c)) (hz:Env.ev E z=some (.int kj ((j:Nat):Int))) [hu:UIs P t (.slice e)] [hi:SzIs P e s] (ha:a=none→c=0) (hb:j≤c):Ev P W n E H (.slice t x none (some z) none) (.slice a j c):=
 Ev.mk fun o ho ac w p _=>by
  have hi:=hi.h
  cases hq:P.info? e with
  |none=>simp [hq] at hi
  |some q=>
   cases a with
   |none=>
    have:=ha rfl
    have h2:j=0:=by omega
    subst this h2
    simp [execOp,ho,p.ev hx,p.ev hz,Instr.sliceAt,Instr.slice,run_underlying hu.h,Instr.sliceBounds,Instr.sliceBound,asIntOf,sizeOf,typeInfo,hq,Result.andThen]
   |some A=>
    simp [execOp,ho,p.ev hx,p.ev hz,Instr.sliceAt,Instr.slice,run_underlying hu.h,Instr.sliceBounds,Instr.sliceBound,asIntOf,hb,sizeOf,typeInfo,hq,Addr.add]
theorem Lv.dropB (K:EncOk enc sz) {A:SP} {a:Option Addr} {l:List α} (h:Lv W enc sz A a l) {i c:Nat} (hi:i≤l.length) (hc:l.length≤c):Lv W enc sz A (subB a i c sz) (l.drop i):=
 ⟨fun w H R hs s hne=>by
  obtain ⟨b,o,ha,hr⟩:=h.go w H R hs s (by intro q;subst q;simp at hne)
  subst ha
  have hlt:i<l.length:=by
   refine Nat.lt_of_not_le fun q=>hne (List.drop_of_length_le q)
  have h0:¬ c-i=0:=by omega
  refine ⟨b,o+i*sz,?_,fun j v hj=>?_⟩
  ·unfold subB Addr.add
   simp only [Option.map_some,if_neg h0]
   by_cases hz:i*sz=0
   ·rw [if_pos hz,hz];simp
   ·rw [if_neg hz]
  ·have:=hr _ v (K.drop_at hi hj)
   rwa [← Nat.add_assoc] at this⟩
theorem Lv.takeB (K:EncOk enc sz) {A:SP} {a:Option Addr} {l:List α} (h:Lv W enc sz A a l) (i:Nat):Lv W enc sz A a (l.take i):=
 ⟨fun w H R hs s hne=>by
  obtain ⟨b,o,ha,hr⟩:=h.go w H R hs s (by intro q;subst q;simp at hne)
  exact ⟨b,o,ha,fun j v hj=>hr j v (K.take_at hj)⟩⟩
structure SlOk (a:Option Addr) (c n:Nat):Prop where
 nil:a=none→c=0
 le:n≤c
theorem SlOk.zero:SlOk none 0 0:=⟨fun _=>rfl,Nat.le_refl _⟩
theorem SlOk.some {g:Addr} {c n:Nat} (h:n≤c):SlOk (some g) c n:=⟨fun e=>(by cases e),h⟩
theorem SlOk.from_ {a:Option Addr} {c n i:Nat} (s:Nat) (h:SlOk a c n):SlOk (subB a i c s) (c-i) (n-i):=by
 have h1:=h.le
 refine ⟨fun e=>?_,by omega⟩
 cases ha:a with
 |none=>have:=h.nil ha;omega
 |some A=>rw [ha] at e;cases e
theorem KJ.slOk {a:Option Addr} {c m:Nat} {l:List α} (hsel:Sel (lsP enc e sz (.slice a m c) l) H R) (h:SlOk a c l.length→KJ W n k E H):KJ W n k E H:=
 ⟨fun ac w q s=>by
  rcases (s.row (hsel.app _)).2 with ⟨hv,h0⟩|⟨g,cap,cur,hv,_,_,h1,_⟩
  ·cases hv
   rw [h0] at h
   exact (h SlOk.zero).go ac w q s
  ·cases hv
   exact (h (SlOk.some h1)).go ac w q s⟩
end
end Go.Proofs.YtgipenahkmbelaaGreatDoor
namespace Go.Proofs.YtgipenahkmbelaaGreatDoor
open Go Go.RowKit
section
variable {P:Program} {W:World} {n:Nat} {k:KK} {E:Env} {H R:List SP} {e:TypeId} {α:Type} {enc:α→List Value} {sz:Nat}
theorem lsCut_ok (K:EncOk enc sz) {a:Option Addr} {c j m:Nat} {l:List α} (hm:m=l.length) (hj:j≤l.length) {g:Hl} (h:(lsP enc e sz (.slice a m c) l).ok g):(lsP enc e sz (.slice a j c) (l.take j)).ok g:=by
 subst hm
 have hl:(l.take j).length=j:=by rw [List.length_take];omega
 refine ⟨K.flat _,?_⟩
 rcases h.2 with ⟨hv,h0⟩|⟨b,cap,cur,hv,hg,h1,h2,h3,h4⟩
 ·left
  injection hv with q1 q2 q3
  have hj0:j=0:=by omega
  exact ⟨by rw [hj0,q1,q3],by omega⟩
 ·right
  cases hv
  refine ⟨b,c,cur,by rw [hl],hg,by omega,h2,h3,?_⟩
  have h5:=congrArg (List.take (j*sz)) h4
  rw [K.take_flat l j hj,List.take_take,Nat.min_eq_left (Nat.mul_le_mul_right _ hj)] at h5
  rw [hl]
  exact h5
theorem starL_turn {A A':SP} (f:∀ h,A.ok h→A'.ok h):∀ g,zAj (A::H) g→zAj (A'::H) g:=fun _ ⟨h1,h2,a,b,c,d,e⟩=>⟨h1,h2,a,b,c,f _ d,e⟩
theorem KJ.lsCut (K:EncOk enc sz) {a:Option Addr} {c m:Nat} {l:List α} (j:Nat) (hm:m=l.length) (hj:j≤l.length) (q:Sel (lsP enc e sz (.slice a m c) l) H R) (h:KJ W n k E (lsP enc e sz (.slice a j c) (l.take j)::R)):KJ W n k E H:=
 ⟨fun a w pp s=>h.go a w pp ((s.perm (q.perm.append_right _)).mono (starL_turn (fun _ hh=>lsCut_ok K hm hj hh)))⟩
end
section
variable {t:Nat} {U:List UE} {u:UE} {j:Nat} {X:List SP}
theorem undo_perm (hu:U[j]? = some u):(U.flatMap (ueP t)).Perm (ueP t u++((U.take j).flatMap (ueP t)++(U.drop (j+1)).flatMap (ueP t))):=by
 have e:U=U.take j++u::U.drop (j+1):=by
  obtain ⟨h1,h2⟩:=List.getElem?_eq_some_iff.1 hu
  conv=>lhs;rw [← List.take_append_drop j U,List.drop_eq_getElem_cons h1,h2]
 conv=>lhs;rw [e]
 rw [List.flatMap_append,List.flatMap_cons,← List.append_assoc,← List.append_assoc]
 exact List.Perm.append_right _ List.perm_append_comm
theorem perm_in {A Y X:List SP}:(A++Y++X).Perm (Y++(A++X)):=by
 rw [← List.append_assoc]
 exact List.Perm.append_right X List.perm_append_comm
abbrev undoX (t:Nat) (U:List UE) (j:Nat):SP:=allP 85 ((U.take j).flatMap (ueP t)++(U.drop (j+1)).flatMap (ueP t))
theorem undo_split (hu:U[j]? = some u):∀ g,zAj (undoP t U::X) g→zAj (undoX t U j::(ueP t u++X)) g:=fun g q=>by
 have q1:zAj (U.flatMap (ueP t)++X) g:=all_open q
 have q2:=starL_perm ((undo_perm (t:=t) hu).append_right X) g q1
 exact all_shut (starL_perm perm_in g q2)
theorem undo_join (hu:U[j]? = some u):∀ g,zAj (undoX t U j::(ueP t u++X)) g→zAj (undoP t U::X) g:=fun g q=>by
 have q1:=all_open q
 exact all_shut (starL_perm (perm_in.symm.trans ((undo_perm (t:=t) hu).symm.append_right X)) g q1)
theorem undo_in {A B C:SP} (hu:U[j]? = some u):∀ g,zAj ([A,B,C,undoP t U]++X) g→zAj (([A,B,C]++ueP t u)++[undoX t U j]++X) g:=fun g q=>by
 have e1:∀ g,zAj ([A,B,C,undoP t U]++X) g→zAj ([undoP t U,A,B,C]++X) g:=(xN)
 have e2:∀ g,zAj ([undoX t U j]++(ueP t u++([A,B,C]++X))) g→zAj (([A,B,C]++ueP t u)++[undoX t U j]++X) g:=(xN (As:=([A,B,C]++ueP t u)++[undoX t U j]) (R:=X))
 exact e2 g (undo_split (X:=[A,B,C]++X) hu g (e1 g q))
theorem undo_out {A B C:SP} (hu:U[j]? = some u):∀ g,zAj (([A,B,C]++ueP t u)++[undoX t U j]++X) g→zAj ([A,B,C,undoP t U]++X) g:=fun g q=>by
 have e1:∀ g,zAj ([undoP t U,A,B,C]++X) g→zAj ([A,B,C,undoP t U]++X) g:=(xN)
 have e2:∀ g,zAj (([A,B,C]++ueP t u)++[undoX t U j]++X) g→zAj ([undoX t U j]++(ueP t u++([A,B,C]++X))) g:=fun g q=>by
  have e3:∀ g,zAj (([A,B,C]++ueP t u)++[undoX t U j]++X) g→zAj (([undoX t U j]++(ueP t u++[A,B,C]))++X) g:=(xN)
  exact e3 g q
 exact e1 g (undo_join (X:=[A,B,C]++X) hu g (e2 g q))
theorem undo_cut (j:Nat):∀ g,zAj (undoP t U::X) g→zAj (undoP t (U.take j)::X) g:=fun g q=>by
 have q1:zAj (U.flatMap (ueP t)++X) g:=all_open q
 have e:U.flatMap (ueP t)=(U.take j).flatMap (ueP t)++(U.drop j).flatMap (ueP t):=by rw [← List.flatMap_append,List.take_append_drop]
 rw [e,List.append_assoc] at q1
 obtain ⟨h1,h2,a,b,c,d,f⟩:=(zBp g).1 q1
 obtain ⟨h3,h4,a',b',c',d',f'⟩:=(zBp h2).1 f
 exact all_shut ((zBp g).2 ⟨h1,h4,a.mono .rfl c',b,c'.trans c,d,f'⟩)
end
section
variable {W:World} {M:List Nd} {F:Nat→Addr} {r0 r:Rows} {Rs:List Rows} {t s m n k:Nat} {K:List (List UInt8 × Bool)} {U:List UE}
theorem KJ.txShutL {n l:Nat} {k:KK} {E:Env} {H R:List SP} {ended:Bool} (x:TxH) (hT:TbOk x.N x.a r) (hM:∀ y ∈ M,y ∈ x.N) (hl:U.length=l) (p:Pick [zAh t (txC s x l ended) 86,tbP x.q x.a x.b,arP x.N,mapP strV Value.bool x.m K,lsP ueC 1 1 (.slice x.ua l x.uc) U,undoP t U] H R) (h:KJ W n k E (TxP M t s r K U ended::R)):KJ W n k E H:=by
 subst hl
 exact KJ.txShut x hT hM p h
theorem KJ.undoCut {n:Nat} {k:KK} {E:Env} {H R:List SP} (j:Nat) (q:Sel (undoP t U) H R) (h:KJ W n k E (undoP t (U.take j)::R)):KJ W n k E H:=
 ⟨fun a w pp s=>h.go a w pp ((s.perm (q.perm.append_right _)).mono (undo_cut j))⟩
instance fn_txmark:FnIs Tryz.prog 15:=⟨by kernel_rfl⟩
instance fn_txback:FnIs Tryz.prog 51:=⟨by kernel_rfl⟩
instance fn_txsize:FnIs Tryz.prog 28:=⟨by kernel_rfl⟩
theorem txmarkP:Ct Tryz.prog W 15 [.pointer (some ⟨t,0,none⟩)] [TxP M t s r K U false] (fun _:Unit=>.int .i64 (U.length:Nat)) (fun _=>[TxP M t s r K U false]):=by
 refine Ct.enter Tryz.func15 rfl Tryz.ntmps15 (by simp) (fun R=>?_)
 refine KJ.txOpen xS (fun x hT hMx=>?_)
 repeat' (first|refine xst ?_|(refine xsa ?_;intro _)|(refine xsb ?_ ?_ <;>intro _<;>try (exfalso;omega))|refine xsc ?_|fail)
 all_goals refine KJ.txShut (s:=s) (K:=K) (U:=U) (ended:=false) x hT hMx xP ?_
 all_goals (exact xdn ())
theorem txmarkE:Ct Tryz.prog W 15 [.pointer (some ⟨t,0,none⟩)] [TxP M t s r K U true] (fun _:Unit=>.int .i64 0) (fun _=>[TxP M t s r K U true]):=by
 refine Ct.enter Tryz.func15 rfl Tryz.ntmps15 (by simp) (fun R=>?_)
 refine KJ.txOpen xS (fun x hT hMx=>?_)
 repeat' (first|refine xst ?_|(refine xsa ?_;intro _)|(refine xsb ?_ ?_ <;>intro _<;>try (exfalso;omega))|refine xsc ?_|fail)
 all_goals refine KJ.txShut (s:=s) (K:=K) (U:=U) (ended:=true) x hT hMx xP ?_
 all_goals (exact xdn ())
theorem txmarkB:Ct Tryz.prog W 15 [.pointer (some ⟨t,0,none⟩)] [TxBM M t s r0 Rs r m] (fun _:Unit=>.int .i64 (Rs.length:Nat)) (fun _=>[TxBM M t s r0 Rs r m]):=by
 refine zBm (Hs:=[]) fun ⟨(K,U),hU⟩=>?_
 have e:=hU.ul
 rw [← e]
 exact (txmarkP (W:=W)).to id (fun _=>rfl) (fun _ R g q=>TxB.star hU g q)
theorem txbackP (hU:TxKB r0 Rs r m K U) (hc:∀ x ∈ Rs++[r],x.length≤288230376151711744) (hm:m≤100000000) {j:Nat} (hj:j≤Rs.length) :
 Ct Tryz.prog W 51 [.pointer (some ⟨t,0,none⟩),.int .i64 (j:Nat)] [TxP M t s r K U false] (fun _:Unit=>.nilIface) (fun _=>[TxP M t s (rowAt Rs r j) K (U.take j) false]):=by
 have hul:=hU.ul
 have hum:=hU.um
 have q1:decide (((j:Nat):Int)<0)=false:=decide_eq_false (by omega)
 have q2:decide (((U.length:Nat):Int)<((j:Nat):Int))=false:=decide_eq_false (by omega)
 refine Ct.enter Tryz.func51 rfl Tryz.ntmps51 (by simp) (fun R=>?_)
 refine KJ.txOpen xS (fun x hT hMx=>?_)
 obtain ⟨xq,xa,xb,xN0,xm,xu,xv⟩:=x
 dsimp only at hT hMx ⊢
 repeat' (first|(refine zAq ?_;refine zAb (zAe rfl rfl q1) ?_)|(refine zBf ?_;refine zAb (zAk rfl rfl q2) ?_)|refine xst ?_|(refine xsa ?_;intro _)|(refine xsb ?_ ?_ <;>intro _<;>try (exfalso;omega))|refine xsc ?_|fail)
 refine zBv (fun i:{i:Nat × List Nd × Option Addr × Int//j≤i.1∧i.1≤U.length∧(∀ y ∈ M,y ∈ i.2.1)∧TbOk i.2.1 i.2.2.1 (rowAt Rs r i.1)}=>[(0,.pointer (some ⟨t,0,none⟩)),(1,.int .i64 (j:Nat))])
  (fun i=>[zAh t (txC s ⟨xq,xa,xb,xN0,xm,xu,xv⟩ i.1.1 false) 86,tbP xq i.1.2.2.1 i.1.2.2.2,arP i.1.2.1,mapP strV Value.bool xm K,lsP ueC 1 1 (.slice xu U.length xv) U,undoP t U]++R) (fun i=>i.1.1) ⟨(U.length,xN0,xa,xb),by omega,Nat.le_refl _,hMx,by rw [hul,rowAt_end];exact hT⟩ xB (xN) (fun ⟨(i,N,a,b),h1,h2,hMi,hTi⟩=>?_)
 dsimp only at h1 h2 hMi hTi ⊢
 by_cases hlt:j<i
 rotate_left
 ·have q3:decide (((j:Nat):Int)<((i:Nat):Int))=false:=decide_eq_false (by omega)
  have hij:j=i:=by omega
  subst hij
  have hjU:j≤U.length:=by omega
  have hjL:(U.take j).length=j:=by rw [List.length_take];omega
  repeat' (first|(refine zBf ?_;refine zAb (zAk rfl rfl q3) ?_)|refine xst ?_|(refine xsa ?_;intro _)|(refine xsb ?_ ?_ <;>intro _<;>try (exfalso;omega))|refine xsc ?_|fail)
  all_goals refine KJ.lsCut (e:=1) (a:=xu) (c:=xv) (m:=U.length) (l:=U) ue_ok j rfl hjU xS ?_
  all_goals refine KJ.undoCut (t:=t) (U:=U) j xS ?_
  all_goals refine KJ.txShutL (s:=s) (K:=K) (U:=U.take j) (ended:=false) ⟨xq,a,b,N,xm,xu,xv⟩ hTi hMi hjL xP ?_
  all_goals (exact xdn ())
 have q3:decide (((j:Nat):Int)<((i:Nat):Int))=true:=decide_eq_true (by omega)
 obtain ⟨z,rfl⟩:∃ z,i=z+1:=⟨i-1,by omega⟩
 obtain ⟨u,hu⟩:∃ u,U[z]? = some u:=⟨_,List.getElem?_eq_getElem (by omega)⟩
 have hun:=hU.undoAt hu
 have cs0:=step1_ct (W:=W) (t:=t) (r:=rowAt Rs r (z+1)) u (rowAt_len hc _) s ⟨xq,a,b,N,xm,xu,xv⟩ (z+1) hTi
 rw [hun] at cs0
 have cs:Ct Tryz.prog W 71 [.pointer (some ⟨u.gh,0,none⟩),.pointer (some ⟨u.gt,0,none⟩),.pointer (some ⟨u.gk,0,none⟩),.pointer (some ⟨u.go,0,none⟩)] [zAh t (txC s ⟨xq,xa,xb,xN0,xm,xu,xv⟩ (z+1) false) 86,tbP xq a b,arP N,undoP t U] (fun _:TbQ N (rowAt Rs r z)=>.tuple #[]) (fun y=>[zAh t (txC s ⟨xq,xa,xb,xN0,xm,xu,xv⟩ (z+1) false) 86,tbP xq y.1.2.1 y.1.2.2,arP y.1.1,undoP t U]):=by
  exact (cs0.frm [undoX t U z]).conv (fun R g q=>undo_in hu g q) (fun y R g q=>undo_out hu g q)
 refine KJ.lsOpen (l:=U) (v:=.slice xu U.length xv) xS (fun ua uc hua hcap=>?_)
 injection hua with _ _ hv3
 rw [← hv3] at hcap
 refine KJ.lsSome (l:=U) (a:=xu) (c:=xv) (m:=U.length) xS (by omega) (fun gu hgu=>?_)
 subst hgu
 have hzc:z≤xv:=by omega
 have hoff:0+Int.toNat ((z:Nat):Int)*1=z*1+0:=by simp
 repeat' (first|(refine is_callV ?_;refine hold ?_)|(refine zAm ?_;refine zAb (Ev_loadLsF (j:=0) ue_ok rfl xS rfl hoff hu rfl) ?_)|(refine zCg ?_;refine zAb (Ev_sliceToB (j:=z) rfl rfl (fun e=>nomatch e) hzc) ?_)|(refine ek_sub ?_;refine zAb (Ev_subI_v (r:=((z:Nat):Int)) rfl rfl (by omega) (by omega)) ?_)|(refine zBf ?_;refine zAb (zAk rfl rfl q3) ?_)|refine xst ?_|(refine xsa ?_;intro _)|(refine xsb ?_ ?_ <;>intro _<;>try (exfalso;omega))|refine xsc ?_|fail)
 all_goals refine Hold.mk ?_
 refine KJ_callV (f:=71) (fs:=#[]) (cs:=#[.pointer (some ⟨u.gh,0,none⟩),.pointer (some ⟨u.gt,0,none⟩),.pointer (some ⟨u.gk,0,none⟩),.pointer (some ⟨u.go,0,none⟩)]) (us:=[.pointer (some ⟨u.gh,0,none⟩),.pointer (some ⟨u.gt,0,none⟩),.pointer (some ⟨u.gk,0,none⟩),.pointer (some ⟨u.go,0,none⟩)]) (vs:=[]) rfl Evs.nil (by simp) cs xP rfl (fun y=>?_)
 obtain ⟨⟨N1,a1,b1⟩,g1,t1⟩:=y
 dsimp only at g1 t1 ⊢
 repeat' (first|(refine zCg ?_;refine zAb (Ev_sliceToB (j:=z) rfl rfl (fun e=>nomatch e) hzc) ?_)|refine xst ?_|(refine xsa ?_;intro _)|(refine xsb ?_ ?_ <;>intro _<;>try (exfalso;omega))|refine xsc ?_|fail)
 all_goals refine zAv ⟨(z,N1,a1,b1),by omega,by omega,fun y hy=>g1 y (hMi y hy),t1⟩ (by show z<z+1;omega) xB (xN)
theorem txbackB (hc:∀ x ∈ Rs++[r],x.length≤288230376151711744) (hm:m≤100000000) {j:Nat} (hj:j≤Rs.length) :
 Ct Tryz.prog W 51 [.pointer (some ⟨t,0,none⟩),.int .i64 (j:Nat)] [TxBM M t s r0 Rs r m] (fun _:Unit=>.nilIface) (fun _=>[TxBM M t s r0 (Rs.take j) (rowAt Rs r j) m]):=by
 refine zBm (Hs:=[]) fun ⟨(K,U),hU⟩=>?_
 exact (txbackP (W:=W) hU hc hm hj).to id (fun _=>rfl) (fun _ R g q=>TxB.star (hU.cut hj) g q)
theorem txsizeB (h2:n≤65536) (hm:m≤100000000) (h0:RisR r0) (hbl:(zAs r0 r).length≤100000000) (hsb:(zBd r).length≤4611686018427387904) :
 Ct Tryz.prog W 28 [.pointer (some ⟨t,0,none⟩)] [TxBM M t s r0 Rs r m,StQ s n k r0] (fun _:Unit=>.int .i64 ((zBd r).length:Nat)) (fun _=>[TxBM M t s r0 Rs r m,StQ s n k r0]):=by
 refine zBm fun ⟨(K,U),hU⟩=>?_
 dsimp only at hU ⊢
 have hkl:=hU.kl
 have hr:=hU.rr
 have hap:zAf r0 (zAs r0 r)=r:=between_apply h0 hr
 refine Ct.to (X:=Unit) (H':=fun _=>[TxP M t s r K U false,StQ s n k r0]) ?_ id (fun _=>rfl) (fun x R g q=>TxB.star hU g q)
 have co:=fun (y:TxH) (hT:TbOk y.N y.a r)=>txopsQ (W:=W) (t:=t) (s:=s) (n:=n) (k:=k) (U:=U) y hT hU.nd (hU.all r (by simp)) (by omega)
 have ca:=fun xa xc=>safterQ (W:=W) (s:=s) (n:=n) (k:=k) (r:=r0) h2 (lsP opC 49 3 (.slice xa (zAs r0 r).length xc) (zAs r0 r)) xa xc (zAs r0 r) (Lv.own zCa rfl) hbl (by rw [hap];exact hsb)
 rw [hap] at ca
 obtain ⟨os,hos⟩:∃ os,os=zAs r0 r:=⟨_,rfl⟩
 rw [← hos] at co ca
 refine Ct.enter Tryz.func28 rfl Tryz.ntmps28 (by simp) (fun R=>?_)
 refine KJ.txOpen xS (fun y hT hMy=>?_)
 repeat' (first|(refine zAd ?_;first|(refine zAc xE (ca _ _) xP rfl (fun _=>?_))|(refine zAc xE (co y hT) xP rfl (fun x=>?_);obtain ⟨xa,xc⟩:=x))|refine xst ?_|(refine xsa ?_;intro _)|(refine xsb ?_ ?_ <;>intro _<;>try (exfalso;omega))|refine xsc ?_|(refine zAa (id:=3) plTFZ0 (by kernel_rfl) (by kernel_rfl) ?_)|refine zAp ?_ ?_|refine zAn rfl rfl rfl rfl rfl ?_ ?_|refine zAg ?_ ?_|exact Rech.nil|fail)
 all_goals refine KJ.txShut (s:=s) (K:=K) (U:=U) (ended:=false) y hT hMy xP ?_
 all_goals (exact xdn ())
end
end Go.Proofs.YtgipenahkmbelaaGreatDoor
namespace Go.Proofs.YtgipenahkmbelaaGreatDoor
open Go Go.RowKit Go.ChangeShapes Go.WideShapes Go.Deep
instance:Inhabited TOp:=⟨⟨0,[],[],0,0⟩⟩
def topC (o:TOp):List Value:=[.int .i64 o.kind,strV o.key,strV o.val,.int .i64 o.n,.int .i64 o.i]
theorem top_ok:EncOk topC 5:=⟨fun _=>rfl,fun x=>by unfold topC;exact xO,by omega⟩
theorem cellsRow14:Tryz.prog.cellsOf 36=2:=by kernel_rfl
theorem cellsTop:Tryz.prog.cellsOf 30=5:=by kernel_rfl
theorem cellsStr14:Tryz.prog.cellsOf 9=1:=by kernel_rfl
theorem i64_both14 {n:Int} (h:(Lit.int .i64 n).wf=true):-9223372036854775808≤n∧n≤9223372036854775807:=by
 have h':(decide (-9223372036854775808≤n) && decide (n≤9223372036854775807))=true:=h
 simpa only [Bool.and_eq_true,decide_eq_true_eq] using h'
structure Args14 (l:Rows) (S:List TOp):Prop where
 ll:l.length≤1048576
 ls:S.length≤1048576
 row:∀ p ∈ l,p.1.length≤1048576∧p.2.length≤1048576
 op:∀ o ∈ S,o.key.length≤1048576∧o.val.length≤1048576∧(-9223372036854775808≤o.n∧o.n≤9223372036854775807)∧(-9223372036854775808≤o.i∧o.i≤9223372036854775807)
section
variable {H:Type} {enc:TypeId × Value→H} {W:World} {base:Nat} {held:Bool}
set_option maxRecDepth 100000 in
theorem rows14_of {r:Reach} {b0:Nat} {v:Value} {d:DataW H} {p:List MemPlace} (hv:Value.okWide Tryz.prog W r b0 22 v) (h:DataW.Trod enc Tryz.prog W base (fun _=>true) held 22 v d p) :
 ∃ (l:Rows) (ad:Option Addr) (c:Nat),v=.slice ad l.length c∧LsAt W rC 2 (.slice ad l.length c) l∧l.length≤Rows.uptoBulk d∧∀ o ∈ l,o.1.length≤Rows.uptoBulk d∧o.2.length≤Rows.uptoBulk d:=by
 obtain ⟨n,hf⟩:=param_slice Tryz.underlying22 hv h
 obtain ⟨l,ad,c,e,hb,-,-,-,hx,hz⟩:=elems_of (α:=List UInt8 × List UInt8) Tryz.underlying22 cellsRow14 (by omega) (fun s cs D=>cs=rC s∧s.1.length≤Rows.uptoBulk D∧s.2.length≤Rows.uptoBulk D) (fun n cs x hx=>by
  obtain ⟨xs,m,_,rfl,hl,hxl,hf⟩:=DataW.trod_struct Tryz.underlying36 hx
  rw [cellsRow14] at hl
  match cs,hl with
  |[c0,c1],_=>
   match xs,hxl with
   |[y0,y1],_=>
    have h0:DataW.trod enc Tryz.prog W base (fun _=>true) held m 9 [c0]=some y0:=field_of hf 0 rfl cellsStr14
    have h1:DataW.trod enc Tryz.prog W base (fun _=>true) held m 9 [c1]=some y1:=field_of hf 1 rfl cellsStr14
    obtain ⟨s0,e0,f0⟩:=DataW.trod_string Tryz.underlying9 h0
    obtain ⟨s1,e1,f1⟩:=DataW.trod_string Tryz.underlying9 h1
    simp only [List.cons.injEq,and_true] at e0 e1
    subst e0;subst e1
    have pl:=agg_parts (H:=H) [y0.1,y1.1]
    have m0:=part_le (H:=H) (d:=y0.1) (l:=[y0.1,y1.1]) (by simp)
    have m1:=part_le (H:=H) (d:=y1.1) (l:=[y0.1,y1.1]) (by simp)
    have k0:s0.data.toList.length≤Rows.uptoBulk y0.1:=by rw [f0.1,string_eq];omega
    have k1:s1.data.toList.length≤Rows.uptoBulk y1.1:=by rw [f1.1,string_eq];omega
    exact ⟨(s0.data.toList,s1.data.toList),rfl,Nat.le_trans k0 (Nat.le_trans m0 pl),Nat.le_trans k1 (Nat.le_trans m1 pl)⟩) hf
 simp only [List.cons.injEq,and_true] at e
 refine ⟨l,ad,c,e,⟨ad,c,rfl,fun hne=>?_⟩,hb,fun o ho=>?_⟩
 ·obtain ⟨b,o,h1,h2,h3⟩:=hx hne
  refine ⟨b,o,h1,h2,fun i x hx=>?_⟩
  obtain ⟨cs,D,⟨rfl,_⟩,_,_,h4⟩:=h3 i x hx
  exact h4
 ·obtain ⟨i,hi,he⟩:=List.mem_iff_getElem.1 ho
  obtain ⟨b,o',h1,h2,h3⟩:=hx (by intro e;rw [e] at ho;cases ho)
  obtain ⟨cs,D,⟨_,k1,k2⟩,k3,_,_⟩:=h3 i o (by rw [List.getElem?_eq_getElem hi,he])
  exact ⟨Nat.le_trans k1 k3,Nat.le_trans k2 k3⟩
set_option maxRecDepth 100000 in
theorem tops_of {r:Reach} {b0:Nat} {v:Value} {d:DataW H} {p:List MemPlace} (hv:Value.okWide Tryz.prog W r b0 23 v) (h:DataW.Trod enc Tryz.prog W base (fun _=>true) held 23 v d p) :
 ∃ (l:List TOp) (ad:Option Addr) (c:Nat),v=.slice ad l.length c∧LsAt W topC 5 (.slice ad l.length c) l∧l.length≤Rows.uptoBulk d∧∀ o ∈ l,o.key.length≤Rows.uptoBulk d∧o.val.length≤Rows.uptoBulk d∧(-9223372036854775808≤o.n∧o.n≤9223372036854775807)∧(-9223372036854775808≤o.i∧o.i≤9223372036854775807):=by
 obtain ⟨n,hf⟩:=param_slice Tryz.underlying23 hv h
 obtain ⟨l,ad,c,e,hb,-,-,-,hx,hz⟩:=elems_of (α:=TOp) Tryz.underlying23 cellsTop (by omega) (fun s cs D=>cs=topC s∧s.key.length≤Rows.uptoBulk D∧s.val.length≤Rows.uptoBulk D∧(-9223372036854775808≤s.n∧s.n≤9223372036854775807)∧(-9223372036854775808≤s.i∧s.i≤9223372036854775807)) (fun n cs x hx=>by
  obtain ⟨xs,m,_,rfl,hl,hxl,hf⟩:=DataW.trod_struct Tryz.underlying30 hx
  rw [cellsTop] at hl
  match cs,hl with
  |[c0,c1,c2,c3,c4],_=>
   match xs,hxl with
   |[y0,y1,y2,y3,y4],_=>
    have h0:DataW.trod enc Tryz.prog W base (fun _=>true) held m 3 [c0]=some y0:=field_of hf 0 rfl cellsInt
    have h1:DataW.trod enc Tryz.prog W base (fun _=>true) held m 9 [c1]=some y1:=field_of hf 1 rfl cellsStr14
    have h2:DataW.trod enc Tryz.prog W base (fun _=>true) held m 9 [c2]=some y2:=field_of hf 2 rfl cellsStr14
    have h3:DataW.trod enc Tryz.prog W base (fun _=>true) held m 3 [c3]=some y3:=field_of hf 3 rfl cellsInt
    have h4:DataW.trod enc Tryz.prog W base (fun _=>true) held m 3 [c4]=some y4:=field_of hf 4 rfl cellsInt
    obtain ⟨n0,e0,f0,w0⟩:=DataW.trod_int Tryz.underlying3 h0
    obtain ⟨s1,e1,f1⟩:=DataW.trod_string Tryz.underlying9 h1
    obtain ⟨s2,e2,f2⟩:=DataW.trod_string Tryz.underlying9 h2
    obtain ⟨n3,e3,f3,w3⟩:=DataW.trod_int Tryz.underlying3 h3
    obtain ⟨n4,e4,f4,w4⟩:=DataW.trod_int Tryz.underlying3 h4
    simp only [List.cons.injEq,and_true] at e0 e1 e2 e3 e4
    subst e0;subst e1;subst e2;subst e3;subst e4
    have pl:=agg_parts (H:=H) [y0.1,y1.1,y2.1,y3.1,y4.1]
    have m1:=part_le (H:=H) (d:=y1.1) (l:=[y0.1,y1.1,y2.1,y3.1,y4.1]) (by simp)
    have m2:=part_le (H:=H) (d:=y2.1) (l:=[y0.1,y1.1,y2.1,y3.1,y4.1]) (by simp)
    have k1:s1.data.toList.length≤Rows.uptoBulk y1.1:=by rw [f1.1,string_eq];omega
    have k2:s2.data.toList.length≤Rows.uptoBulk y2.1:=by rw [f2.1,string_eq];omega
    exact ⟨⟨n0,s1.data.toList,s2.data.toList,n3,n4⟩,rfl,Nat.le_trans k1 (Nat.le_trans m1 pl),Nat.le_trans k2 (Nat.le_trans m2 pl),i64_both14 w3,i64_both14 w4⟩) hf
 simp only [List.cons.injEq,and_true] at e
 refine ⟨l,ad,c,e,⟨ad,c,rfl,fun hne=>?_⟩,hb,fun o ho=>?_⟩
 ·obtain ⟨b,o,h1,h2,h3⟩:=hx hne
  refine ⟨b,o,h1,h2,fun i x hx=>?_⟩
  obtain ⟨cs,D,⟨rfl,_⟩,_,_,h4⟩:=h3 i x hx
  exact h4
 ·obtain ⟨i,hi,he⟩:=List.mem_iff_getElem.1 ho
  obtain ⟨b,o',h1,h2,h3⟩:=hx (by intro e;rw [e] at ho;cases ho)
  obtain ⟨cs,D,⟨_,q1,q2,q3,q4⟩,k3,_,_⟩:=h3 i o (by rw [List.getElem?_eq_getElem hi,he])
  exact ⟨Nat.le_trans q1 k3,Nat.le_trans q2 k3,q3,q4⟩
end
end Go.Proofs.YtgipenahkmbelaaGreatDoor
namespace Go.Proofs.YtgipenahkmbelaaGreatDoor
open Go Go.RowKit
instance st_row14:StIs Tryz.prog 36:=⟨by kernel_rfl,by kernel_rfl⟩
instance st_op14:StIs Tryz.prog 49:=⟨by kernel_rfl,by kernel_rfl⟩
theorem row14_eqF (x y:List UInt8 × List UInt8) {fs:Array Field} (hu:Tryz.prog.underlying 36=some (.struct fs)):EqF Tryz.prog (rC x) (rC y) fs.toList (decide (x=y)):=by
 have e:=Tryz.underlying36.symm.trans hu
 simp only [Option.some.injEq,TypeDesc.struct.injEq] at e
 subst e
 have e2:decide (x=y)=(decide (x.1=y.1) && (decide (x.2=y.2) && true)):=by
  rw [Bool.eq_iff_iff]
  cases x;cases y
  simp
 rw [e2]
 refine EqF.cons rfl inferInstance rfl rfl ?_ (EqF.cons rfl inferInstance rfl rfl ?_ EqF.nil)
 all_goals (unfold cellEq;simp)
theorem op14_eqF (x y:BOp) {fs:Array Field} (hu:Tryz.prog.underlying 49=some (.struct fs)):EqF Tryz.prog (opC x) (opC y) fs.toList (decide (x=y)):=by
 have e:=Tryz.underlying49.symm.trans hu
 simp only [Option.some.injEq,TypeDesc.struct.injEq] at e
 subst e
 have e2:decide (x=y)=(decide (x.del=y.del) && (decide (x.key=y.key) && (decide (x.val=y.val) && true))):=by
  rw [Bool.eq_iff_iff]
  cases x;cases y
  simp
 rw [e2]
 refine EqF.cons rfl inferInstance rfl rfl ?_ (EqF.cons rfl inferInstance rfl rfl ?_ (EqF.cons rfl inferInstance rfl rfl ?_ EqF.nil))
 all_goals (unfold cellEq;simp)
section
variable {W:World} {F:Nat→Addr}
instance fn_hlight:FnIs Tryz.prog 5:=⟨by kernel_rfl⟩
instance fn_hrows:FnIs Tryz.prog 31:=⟨by kernel_rfl⟩
instance fn_hops:FnIs Tryz.prog 26:=⟨by kernel_rfl⟩
theorem srows14_ct (A B:SP) (a b:Option Addr) (c d:Nat) (l:Rows) (hA:Lv W rC 2 A a l) (hB:Lv W rC 2 B b l) (h1:l.length≤4611686018427387904) :
 Ct Tryz.prog W 31 [.slice a l.length c,.slice b l.length d] [A,B] (fun _:Unit=>.bool true) (fun _=>[A,B]):=by
 have q:((l.length:Nat):Int)=(l.length:Nat):=rfl
 refine Ct.enter Tryz.func31 rfl Tryz.ntmps31 (by simp) (fun R=>?_)
 repeat' (first|(refine zBz ?_;refine zAb (zCh rfl rfl q) ?_)|refine xst ?_|(refine xsa ?_;intro _)|(refine xsb ?_ ?_ <;>intro _<;>try (exfalso;omega))|refine xsc ?_|(refine zAa (id:=6) plTFZ1 (by kernel_rfl) (by kernel_rfl) ?_)|refine zAp ?_ ?_|refine zAn rfl rfl rfl rfl rfl ?_ ?_|refine zAg ?_ ?_|exact Rech.nil|fail)
 refine zBv (fun i:{i:Nat//i≤l.length}=>[(0,.slice a l.length c),(1,.slice b l.length d),(12,.int .i64 (l.length:Nat)),(13,.int .i64 (i.1:Nat))])
  (fun _=>[A,B]++R) (fun i=>l.length-i.1) ⟨0,Nat.zero_le _⟩ xB (xN) (fun ⟨i,hi⟩=>?_)
 dsimp only
 by_cases hlt:i<l.length
 rotate_left
 ·have ql:decide ((i:Int)<(l.length:Nat))=false:=decide_eq_false (by omega)
  repeat' (first|(refine zAq ?_;refine zAb (zAe rfl rfl ql) ?_)|refine xst ?_|(refine xsa ?_;intro _)|(refine xsb ?_ ?_ <;>intro _<;>try (exfalso;omega))|refine xsc ?_|(refine zAa (id:=6) plTFZ1 (by kernel_rfl) (by kernel_rfl) ?_)|refine zAp ?_ ?_|refine zAn rfl rfl rfl rfl rfl ?_ ?_|refine zAg ?_ ?_|exact Rech.nil|fail)
  all_goals (exact xdn ())
 have ql:decide ((i:Int)<(l.length:Nat))=true:=decide_eq_true (by omega)
 obtain ⟨x,hx⟩:∃ s,l[i]? = some s:=⟨_,List.getElem?_eq_getElem hlt⟩
 refine KJ.lvSome hA xS (by omega) (fun ba oa hab=>?_)
 subst hab
 refine KJ.lvSome hB xS (by omega) (fun bb ob hab=>?_)
 subst hab
 have ho1:oa+Int.toNat (i:Int)*2=oa+i*2:=by rw [Int.toNat_natCast]
 have ho2:ob+Int.toNat (i:Int)*2=ob+i*2:=by rw [Int.toNat_natCast]
 have hq:(!decide (x=x))=false:=by simp
 repeat' (first|(refine zAm ?_;first|refine zAb (zBn zCc hA rfl rfl xS ho1 hx) ?_|refine zAb (zBn zCc hB rfl rfl xS ho2 hx) ?_)|(refine zBh ?_;refine zAb (zAi (r:=((i+1:Nat):Int)) rfl rfl (by omega) (by omega)) ?_)|(refine zBz ?_;refine zAb (Ev_neqSt rfl rfl (row14_eqF x x Tryz.underlying36) hq) ?_)|(refine zAq ?_;refine zAb (zAe rfl rfl ql) ?_)|refine xst ?_|(refine xsa ?_;intro _)|(refine xsb ?_ ?_ <;>intro _<;>try (exfalso;omega))|refine xsc ?_|(refine zAa (id:=6) plTFZ1 (by kernel_rfl) (by kernel_rfl) ?_)|refine zAp ?_ ?_|refine zAn rfl rfl rfl rfl rfl ?_ ?_|refine zAg ?_ ?_|exact Rech.nil|fail)
 all_goals refine zAv ⟨i+1,hlt⟩ (by show l.length-(i+1)<l.length-i;omega) xB (xN)
theorem sops14_ct (A B:SP) (a b:Option Addr) (c d:Nat) (l:List BOp) (hA:Lv W opC 3 A a l) (hB:Lv W opC 3 B b l) (h1:l.length≤4611686018427387904) :
 Ct Tryz.prog W 26 [.slice a l.length c,.slice b l.length d] [A,B] (fun _:Unit=>.bool true) (fun _=>[A,B]):=by
 have q:((l.length:Nat):Int)=(l.length:Nat):=rfl
 refine Ct.enter Tryz.func26 rfl Tryz.ntmps26 (by simp) (fun R=>?_)
 repeat' (first|(refine zBz ?_;refine zAb (zCh rfl rfl q) ?_)|refine xst ?_|(refine xsa ?_;intro _)|(refine xsb ?_ ?_ <;>intro _<;>try (exfalso;omega))|refine xsc ?_|(refine zAa (id:=6) plTFZ1 (by kernel_rfl) (by kernel_rfl) ?_)|refine zAp ?_ ?_|refine zAn rfl rfl rfl rfl rfl ?_ ?_|refine zAg ?_ ?_|exact Rech.nil|fail)
 refine zBv (fun i:{i:Nat//i≤l.length}=>[(0,.slice a l.length c),(1,.slice b l.length d),(12,.int .i64 (l.length:Nat)),(13,.int .i64 (i.1:Nat))])
  (fun _=>[A,B]++R) (fun i=>l.length-i.1) ⟨0,Nat.zero_le _⟩ xB (xN) (fun ⟨i,hi⟩=>?_)
 dsimp only
 by_cases hlt:i<l.length
 rotate_left
 ·have ql:decide ((i:Int)<(l.length:Nat))=false:=decide_eq_false (by omega)
  repeat' (first|(refine zAq ?_;refine zAb (zAe rfl rfl ql) ?_)|refine xst ?_|(refine xsa ?_;intro _)|(refine xsb ?_ ?_ <;>intro _<;>try (exfalso;omega))|refine xsc ?_|(refine zAa (id:=6) plTFZ1 (by kernel_rfl) (by kernel_rfl) ?_)|refine zAp ?_ ?_|refine zAn rfl rfl rfl rfl rfl ?_ ?_|refine zAg ?_ ?_|exact Rech.nil|fail)
  all_goals (exact xdn ())
 have ql:decide ((i:Int)<(l.length:Nat))=true:=decide_eq_true (by omega)
 obtain ⟨x,hx⟩:∃ s,l[i]? = some s:=⟨_,List.getElem?_eq_getElem hlt⟩
 refine KJ.lvSome hA xS (by omega) (fun ba oa hab=>?_)
 subst hab
 refine KJ.lvSome hB xS (by omega) (fun bb ob hab=>?_)
 subst hab
 have ho1:oa+Int.toNat (i:Int)*3=oa+i*3:=by rw [Int.toNat_natCast]
 have ho2:ob+Int.toNat (i:Int)*3=ob+i*3:=by rw [Int.toNat_natCast]
 have hq:(!decide (x=x))=false:=by simp
 repeat' (first|(refine zAm ?_;first|refine zAb (zBn zCa hA rfl rfl xS ho1 hx) ?_|refine zAb (zBn zCa hB rfl rfl xS ho2 hx) ?_)|(refine zBh ?_;refine zAb (zAi (r:=((i+1:Nat):Int)) rfl rfl (by omega) (by omega)) ?_)|(refine zBz ?_;refine zAb (Ev_neqSt rfl rfl (op14_eqF x x Tryz.underlying49) hq) ?_)|(refine zAq ?_;refine zAb (zAe rfl rfl ql) ?_)|refine xst ?_|(refine xsa ?_;intro _)|(refine xsb ?_ ?_ <;>intro _<;>try (exfalso;omega))|refine xsc ?_|(refine zAa (id:=6) plTFZ1 (by kernel_rfl) (by kernel_rfl) ?_)|refine zAp ?_ ?_|refine zAn rfl rfl rfl rfl rfl ?_ ?_|refine zAg ?_ ?_|exact Rech.nil|fail)
 all_goals refine zAv ⟨i+1,hlt⟩ (by show l.length-(i+1)<l.length-i;omega) xB (xN)
theorem light_next {l:Rows} {i:Nat} {p:List UInt8 × List UInt8} (h:l[i]? = some p):lightN (l.take (i+1))=lightN (l.take i)+(8+min p.1.length 16384+min p.2.length 16384):=sumW_next lightW h
theorem light_take (l:Rows) (i:Nat):lightN (l.take i)≤lightN l:=sumW_take lightW l i
theorem hlight_ct (A:SP) (a:Option Addr) (c:Nat) (l:Rows) (hA:Lv W rC 2 A a l) (h1:l.length≤1000000000) :
 Ct Tryz.prog W 5 [.slice a l.length c] [A] (fun _:Unit=>.bool (decide (lightN l≤8192))) (fun _=>[A]):=by
 obtain ⟨V,hV⟩:∃ V,V=decide (lightN l≤8192):=⟨_,rfl⟩
 rw [← hV]
 refine Ct.enter Tryz.func5 rfl Tryz.ntmps5 (by simp) (fun R=>?_)
 repeat' (first|refine xst ?_|(refine xsa ?_;intro _)|(refine xsb ?_ ?_ <;>intro _<;>try (exfalso;omega))|refine xsc ?_|fail)
 refine zBv (fun i:{i:Nat//i≤l.length∧lightN (l.take i)≤8192}=>[(3,.int .i64 (lightN (l.take i.1):Nat)),(6,.slice a l.length c),(7,.int .i64 (l.length:Nat)),(8,.int .i64 (i.1:Nat))])
  (fun _=>[A]++R) (fun i=>l.length-i.1) ⟨0,Nat.zero_le _,Nat.zero_le _⟩ xB (xN) (fun ⟨i,hi,ht⟩=>?_)
 dsimp only at hi ht ⊢
 by_cases hlt:i<l.length
 rotate_left
 ·have ql:decide ((i:Int)<(l.length:Nat))=false:=decide_eq_false (by omega)
  rw [List.take_of_length_le (by omega)] at ht
  rw [hV,decide_eq_true ht]
  repeat' (first|(refine zAq ?_;refine zAb (zAe rfl rfl ql) ?_)|refine xst ?_|(refine xsa ?_;intro _)|(refine xsb ?_ ?_ <;>intro _<;>try (exfalso;omega))|refine xsc ?_|fail)
  all_goals (exact xdn ())
 have ql:decide ((i:Int)<(l.length:Nat))=true:=decide_eq_true (by omega)
 obtain ⟨x,hx⟩:∃ s,l[i]? = some s:=⟨_,List.getElem?_eq_getElem hlt⟩
 have hnx:=light_next hx
 have hle:=light_take l (i+1)
 refine KJ.lvSome hA xS (by omega) (fun ba oa hab=>?_)
 subst hab
 have ho1:oa+Int.toNat (i:Int)*2=oa+i*2:=by rw [Int.toNat_natCast]
 by_cases hg:lightN (l.take (i+1))≤8192
 ·have qg:decide ((8192:Int)<((lightN (l.take (i+1)):Nat):Int))=false:=decide_eq_false (by omega)
  repeat' (first|(refine zBc ?_;refine zAu rfl (fun g=>?_))|(refine zAm ?_;refine zAb (zBn zCc hA rfl rfl xS ho1 hx) ?_)|(refine zBh ?_;first|refine zAb (zAi (r:=((i+1:Nat):Int)) rfl rfl (by omega) (by omega)) ?_|refine zAb (zAi (r:=((8+min x.1.length 16384:Nat):Int)) rfl rfl (by omega) (by omega)) ?_|refine zAb (zAi (r:=((8+min x.1.length 16384+min x.2.length 16384:Nat):Int)) rfl rfl (by omega) (by omega)) ?_|refine zAb (zAi (r:=((lightN (l.take (i+1)):Nat):Int)) rfl rfl (by omega) (by omega)) ?_)|(refine zAq ?_;refine zAb (zAe rfl rfl ql) ?_)|(refine zBf ?_;refine zAb (zAk rfl rfl qg) ?_)|refine xst ?_|(refine xsa ?_;intro _)|(refine xsb ?_ ?_ <;>intro _<;>try (exfalso;omega))|refine xsc ?_|fail)
  all_goals refine zAv ⟨i+1,hlt,hg⟩ (by show l.length-(i+1)<l.length-i;omega) xB (xN)
 ·have qg:decide ((8192:Int)<((lightN (l.take (i+1)):Nat):Int))=true:=decide_eq_true (by omega)
  rw [hV,decide_eq_false (by omega)]
  repeat' (first|(refine zBc ?_;refine zAu rfl (fun g=>?_))|(refine zAm ?_;refine zAb (zBn zCc hA rfl rfl xS ho1 hx) ?_)|(refine zBh ?_;first|refine zAb (zAi (r:=((i+1:Nat):Int)) rfl rfl (by omega) (by omega)) ?_|refine zAb (zAi (r:=((8+min x.1.length 16384:Nat):Int)) rfl rfl (by omega) (by omega)) ?_|refine zAb (zAi (r:=((8+min x.1.length 16384+min x.2.length 16384:Nat):Int)) rfl rfl (by omega) (by omega)) ?_|refine zAb (zAi (r:=((lightN (l.take (i+1)):Nat):Int)) rfl rfl (by omega) (by omega)) ?_)|(refine zAq ?_;refine zAb (zAe rfl rfl ql) ?_)|(refine zBf ?_;refine zAb (zAk rfl rfl qg) ?_)|refine xst ?_|(refine xsa ?_;intro _)|(refine xsb ?_ ?_ <;>intro _<;>try (exfalso;omega))|refine xsc ?_|fail)
  all_goals (exact xdn ())
end
end Go.Proofs.YtgipenahkmbelaaGreatDoor
namespace Go.Proofs.YtgipenahkmbelaaGreatDoor
open Go Go.RowKit
abbrev roP (x:Option Addr × Nat) (l:Rows):SP:=lsP rC 36 2 (.slice x.1 l.length x.2) l
theorem Ev_eqlFn14 {P:Program} {W:World} {n:Nat} {E:Env} {H:List SP} {t u:TypeId} {x y:Operand} {f:Fn} {us vs:Array Value} {ps rs:Array TypeId} {vr:Bool} (hx:Env.ev E x=some (.func f us vs)) (hy:Env.ev E y=some .nilFunc) [hu:UIs P t (.func ps rs vr)]:Ev P W n E H (.binOp .eql t x y u) (.bool false):=by
 refine Ev_bin hx hy (fun w=>?_) (fun w=>?_)
 ·cases x <;> cases y <;> simp [eqGuard]
 ·have e:(Op.equal t (.func f us vs) .nilFunc).run P w=.ok false w:=by
   unfold Op.equal Op.maxDepth
   have key:∀ m,(Op.equalIn (m+1) t (.func f us vs) .nilFunc).run P w=.ok false w:=by
    intro m
    simp [Op.equalIn,run_underlying hu.h]
   exact key 9999
  simp [binOp,e,Result.andThen]
theorem Ct.noP14 {P:Program} {W:World} {f:FuncId} {args:List Value} {X:Type} {r:X→Value} (h:Ct P W f args [noP,noP] r (fun _=>[noP,noP])):Ct P W f args [] r (fun _=>[]):=
 ⟨fun R w s=>(h.go R w ((s.mono noP_star).mono noP_star)).mono fun _ _ ⟨x,he,hs⟩=>⟨x,he,hs.right (A:=[noP,noP])⟩⟩
abbrev opP (x:Option Addr × Nat) (l:List BOp):SP:=lsP opC 49 3 (.slice x.1 l.length x.2) l
theorem Lv.all {W:World} {α:Type} {enc:α→List Value} {sz key:Nat} {A:SP} {L L':List SP} {a:Option Addr} {l:List α} (h:Lv W enc sz A a l) (hx:Sel A L L'):Lv W enc sz (allP key L) a l:=
 ⟨fun w _ R hs s hne=>h.go w (L++R) (L'++R) (hx.app R) ((s.perm hs.perm).mono (fun _ q=>all_open q)) hne⟩
section
variable {W:World} {F:Nat→Addr} {r0 r:Rows} {Rs:List Rows} {t s m n k:Nat}
instance fn_txrange:FnIs Tryz.prog 22:=⟨by kernel_rfl⟩
end
end Go.Proofs.YtgipenahkmbelaaGreatDoor
namespace Go.Proofs.YtgipenahkmbelaaGreatDoor
open Go Go.RowKit
def putO (p:List UInt8 × List UInt8):BOp:=⟨false,p.1,p.2⟩
theorem apply_puts (l r:Rows):zAf r (l.map putO)=l.foldl (fun r p=>putR r p.1 p.2) r:=by
 unfold zAf
 rw [List.foldl_map]
 rfl
theorem apply_ofR (l:Rows):zAf [] (l.map putO)=ofR l:=apply_puts l []
theorem heavy_next {S:List TOp} {i:Nat} {o:TOp} (h:S[i]? = some o):heavyN (S.take (i+1))=heavyN (S.take i)+(16+min o.key.length 65536+min o.val.length 65536+(if o.kind=13 then 400 else 0)+(if o.kind=11 then 400 else 0)):=sumW_next zBa h
theorem heavyW_le (o:TOp):zBa o≤200000:=by unfold zBa;split <;> split <;> omega
theorem heavyN_le (S:List TOp):heavyN S≤S.length*200000:=by
 induction S with
 |nil=>exact Nat.le_refl _
 |cons o S ih=>
  have h1:=heavyW_le o
  have h2:heavyN (o::S)=zBa o+heavyN S:=sumW_cons ..
  rw [h2,List.length_cons,Nat.succ_mul]
  omega
section
variable {W:World} {F:Nat→Addr}
instance fn_hstore:FnIs Tryz.prog 9:=⟨by kernel_rfl⟩
instance fn_heavy14:FnIs Tryz.prog 6:=⟨by kernel_rfl⟩
instance fn_lives14:FnIs Tryz.prog 4:=⟨by kernel_rfl⟩
theorem hstore_ct (hE:ErrsOn L16 W F) (hN:NibAt W) (hg:gB≤W.heap.size) (A:SP) (a:Option Addr) (c:Nat) (l:Rows) (hA:Lv W rC 2 A a l) (hl:LightI l) :
 Ct Tryz.prog W 9 [.slice a l.length c] [A] (fun s:Nat=>.pointer (some ⟨s,0,none⟩)) (fun s=>[A,StQ s 400 2 (ofR l)]):=by
 have cn:Ct Tryz.prog W 33 [.int .i64 400] [] (fun p:Nat=>.tuple #[.pointer (some ⟨p,0,none⟩),.nilIface]) (fun p=>[DiskP p (Dsk.blank 400)]):=new_ct 400 (by omega) (by omega) hg
 have hsn:(zBd (ofR l)).length≤234*layA 400:=by rw [room400];have:=hl.snap.1;omega
 have hll:=hl.len
 have hE8:ErrsOn L8 W F:=hE.to8
 have cf:=fun (d:Nat) (xa:Option Addr) (xc:Nat)=>snewF_ct (W:=W) (F:=F) (d:=d) hE hE8 hN (n:=400) (by omega) (by omega) (opP (xa,xc) (l.map putO)) xa xc (l.map putO) (Lv.own (e:=49) (c:=xc) zCa rfl) (by rw [List.length_map];omega) (apply_ofR l) hsn
 have co:=fun (d:Nat)=>snewO_ct (W:=W) (F:=F) (d:=d) hE hE8 hN (n:=400) (by omega) (by omega) (sum_ofR l).2 hsn
 obtain ⟨r,hr⟩:∃ r,r=ofR l:=⟨_,rfl⟩
 rw [← hr] at cf co ⊢
 refine Ct.enter Tryz.func9 rfl Tryz.ntmps9 (by simp) (fun R=>?_)
 repeat' (first|(refine zAd ?_;refine zAc xE cn xP rfl (fun d=>?_))|(refine zBi ?_;refine KJ_bslice0 rfl (fun gm=>?_))|refine xst ?_|(refine xsa ?_;intro _)|(refine xsb ?_ ?_ <;>intro _<;>try (exfalso;omega))|refine xsc ?_|fail)
 refine zBv (fun x:{x:Nat × Option Addr × Nat//x.1≤l.length}=>[(3,.pointer (some ⟨d,0,none⟩)),(5,.slice x.1.2.1 ((l.take x.1.1).map putO).length x.1.2.2),(20,.slice a l.length c),(21,.int .i64 (l.length:Nat)),(22,.int .i64 (x.1.1:Nat))])
  (fun x=>[A,DiskP d (Dsk.blank 400),opP x.1.2 ((l.take x.1.1).map putO)]++R) (fun x=>l.length-x.1.1) ⟨(0,some ⟨gm,0,none⟩,0),Nat.zero_le _⟩ xB (xN) (fun ⟨(i,xa,xc),hi⟩=>?_)
 dsimp only at hi ⊢
 by_cases hlt:i<l.length
 rotate_left
 ·have ql:decide ((i:Int)<(l.length:Nat))=false:=decide_eq_false (by omega)
  obtain rfl:i=l.length:=by omega
  rw [List.take_length]
  repeat' (first|(refine zAd ?_;first|(refine zAc xE (co _) xP rfl (fun s=>?_))|(refine zAc xE (cf _ _ _) xP rfl (fun _=>?_)))|(refine zAq ?_;refine zAb (zAe rfl rfl ql) ?_)|refine xst ?_|(refine xsa ?_;intro _)|(refine xsb ?_ ?_ <;>intro _<;>try (exfalso;omega))|refine xsc ?_|fail)
  all_goals (exact xdn s)
 have ql:decide ((i:Int)<(l.length:Nat))=true:=decide_eq_true (by omega)
 obtain ⟨x,hx⟩:∃ s,l[i]? = some s:=⟨_,List.getElem?_eq_getElem hlt⟩
 have em:(l.take i).map putO++[putO x]=(l.take (i+1)).map putO:=by rw [List.take_add_one,hx,List.map_append];rfl
 have eT:((l.take i).map putO).length≤i:=by rw [List.length_map];exact List.length_take_le ..
 obtain ⟨T,hTT⟩:∃ T,T=(l.take i).map putO:=⟨_,rfl⟩
 rw [← hTT] at em eT ⊢
 have m1:(T.length+1)*40≤140737488355328:=by omega
 have m2:T.length+1≤9223372036854775807:=by omega
 refine KJ.lvSome hA xS (by omega) (fun ba oa hab=>?_)
 subst hab
 have ho1:oa+Int.toNat (i:Int)*2=oa+i*2:=by rw [Int.toNat_natCast]
 repeat' (first|(refine zBc ?_;refine zAu rfl (fun g=>?_))|(refine zBq ?_;refine zCe (l:=T) (a:=putO x) zCa rfl rfl rfl xS xS m1 m2 rfl (fun g' c'=>?_))|(refine zBi ?_;refine zBt rfl xF (by rfl) (by omega) rfl (fun gb=>?_))|(refine zAm ?_;refine zAb (zBn zCc hA rfl rfl xS ho1 hx) ?_)|(refine zAy ?_;refine zAb (zAz xV xW) ?_)|(refine zBh ?_;refine zAb (zAi (r:=((i+1:Nat):Int)) rfl rfl (by omega) (by omega)) ?_)|(refine zAq ?_;refine zAb (zAe rfl rfl ql) ?_)|refine xst ?_|(refine xsa ?_;intro _)|(refine xsb ?_ ?_ <;>intro _<;>try (exfalso;omega))|refine xsc ?_|fail)
 all_goals rw [em]
 all_goals refine zAv ⟨(i+1,some ⟨g',0,none⟩,c'),hlt⟩ (by show l.length-(i+1)<l.length-i;omega) xB (xN)
theorem heavy14_ct (B:SP) (b:Option Addr) (d:Nat) (S:List TOp) (hB:Lv W topC 5 B b S) (h1:S.length≤1000000000) :
 Ct Tryz.prog W 6 [.slice b S.length d] [B] (fun _:Unit=>.bool (decide (16384<heavyN S))) (fun _=>[B]):=by
 have hb:=heavyN_le S
 refine Ct.enter Tryz.func6 rfl Tryz.ntmps6 (by simp) (fun R=>?_)
 repeat' (first|refine xst ?_|(refine xsa ?_;intro _)|(refine xsb ?_ ?_ <;>intro _<;>try (exfalso;omega))|refine xsc ?_|fail)
 refine zBv (fun i:{i:Nat//i≤S.length}=>[(3,.int .i64 (heavyN (S.take i.1):Nat)),(6,.slice b S.length d),(7,.int .i64 (S.length:Nat)),(8,.int .i64 (i.1:Nat))])
  (fun _=>[B]++R) (fun i=>S.length-i.1) ⟨0,Nat.zero_le _⟩ xB (xN) (fun ⟨i,hi⟩=>?_)
 dsimp only at hi ⊢
 by_cases hlt:i<S.length
 rotate_left
 ·have ql:decide ((i:Int)<(S.length:Nat))=false:=decide_eq_false (by omega)
  obtain rfl:i=S.length:=by omega
  rw [List.take_length]
  have qg:decide ((16384:Int)<((heavyN S:Nat):Int))=decide (16384<heavyN S):=decide_eq_decide.2 (by omega)
  repeat' (first|(refine zAq ?_;refine zAb (zAe rfl rfl ql) ?_)|(refine zBf ?_;refine zAb (zAk rfl rfl qg) ?_)|refine xst ?_|(refine xsa ?_;intro _)|(refine xsb ?_ ?_ <;>intro _<;>try (exfalso;omega))|refine xsc ?_|fail)
  all_goals (exact xdn ())
 have ql:decide ((i:Int)<(S.length:Nat))=true:=decide_eq_true (by omega)
 obtain ⟨o,ho⟩:∃ s,S[i]? = some s:=⟨_,List.getElem?_eq_getElem hlt⟩
 have hnx:=heavy_next ho
 have hle:heavyN (S.take (i+1))≤heavyN S:=sumW_take zBa S (i+1)
 refine KJ.lvSome hB xS (by omega) (fun ba oa hab=>?_)
 subst hab
 have ho1:oa+Int.toNat (i:Int)*5=oa+i*5:=by rw [Int.toNat_natCast]
 obtain ⟨M,hM⟩:∃ M:Nat,M=heavyN (S.take i):=⟨_,rfl⟩
 obtain ⟨M2,hM2⟩:∃ M:Nat,M=heavyN (S.take (i+1)):=⟨_,rfl⟩
 rw [← hM,← hM2] at hnx
 rw [← hM2] at hle
 rw [← hM]
 by_cases k13:o.kind=13
 ·have q13:decide (o.kind=13)=true:=decide_eq_true k13
  have q11:decide (o.kind=11)=false:=decide_eq_false (by omega)
  rw [if_pos k13,if_neg (by omega)] at hnx
  repeat' (first|(refine zBc ?_;refine zAu rfl (fun g=>?_))|(refine zAm ?_;refine zAb (zBn top_ok hB rfl rfl xS ho1 ho) ?_)|(refine zBh ?_;first|refine zAb (zAi (r:=((i+1:Nat):Int)) rfl rfl (by omega) (by omega)) ?_|refine zAb (zAi (r:=((16+min o.key.length 65536:Nat):Int)) rfl rfl (by omega) (by omega)) ?_|refine zAb (zAi (r:=((16+min o.key.length 65536+min o.val.length 65536:Nat):Int)) rfl rfl (by omega) (by omega)) ?_|refine zAb (zAi (r:=((M+(16+min o.key.length 65536+min o.val.length 65536):Nat):Int)) rfl rfl (by omega) (by omega)) ?_|refine zAb (zAi (r:=((M2:Nat):Int)) rfl rfl (by omega) (by omega)) ?_)|(refine zBg ?_;first|refine zAb (zAr rfl rfl q11) ?_|refine zAb (zAr rfl rfl q13) ?_)|(refine zAq ?_;refine zAb (zAe rfl rfl ql) ?_)|refine xst ?_|(refine xsa ?_;intro _)|(refine xsb ?_ ?_ <;>intro _<;>try (exfalso;omega))|refine xsc ?_|fail)
  all_goals refine zAv ⟨i+1,hlt⟩ (by show S.length-(i+1)<S.length-i;omega) (by rw [← hM2];exact xB) (xN)
 have q13:decide (o.kind=13)=false:=decide_eq_false k13
 rw [if_neg k13] at hnx
 by_cases k11:o.kind=11
 ·have q11:decide (o.kind=11)=true:=decide_eq_true k11
  rw [if_pos k11] at hnx
  repeat' (first|(refine zBc ?_;refine zAu rfl (fun g=>?_))|(refine zAm ?_;refine zAb (zBn top_ok hB rfl rfl xS ho1 ho) ?_)|(refine zBh ?_;first|refine zAb (zAi (r:=((i+1:Nat):Int)) rfl rfl (by omega) (by omega)) ?_|refine zAb (zAi (r:=((16+min o.key.length 65536:Nat):Int)) rfl rfl (by omega) (by omega)) ?_|refine zAb (zAi (r:=((16+min o.key.length 65536+min o.val.length 65536:Nat):Int)) rfl rfl (by omega) (by omega)) ?_|refine zAb (zAi (r:=((M+(16+min o.key.length 65536+min o.val.length 65536):Nat):Int)) rfl rfl (by omega) (by omega)) ?_|refine zAb (zAi (r:=((M2:Nat):Int)) rfl rfl (by omega) (by omega)) ?_)|(refine zBg ?_;first|refine zAb (zAr rfl rfl q11) ?_|refine zAb (zAr rfl rfl q13) ?_)|(refine zAq ?_;refine zAb (zAe rfl rfl ql) ?_)|refine xst ?_|(refine xsa ?_;intro _)|(refine xsb ?_ ?_ <;>intro _<;>try (exfalso;omega))|refine xsc ?_|fail)
  all_goals refine zAv ⟨i+1,hlt⟩ (by show S.length-(i+1)<S.length-i;omega) (by rw [← hM2];exact xB) (xN)
 ·have q11:decide (o.kind=11)=false:=decide_eq_false k11
  rw [if_neg k11] at hnx
  repeat' (first|(refine zBc ?_;refine zAu rfl (fun g=>?_))|(refine zAm ?_;refine zAb (zBn top_ok hB rfl rfl xS ho1 ho) ?_)|(refine zBh ?_;first|refine zAb (zAi (r:=((i+1:Nat):Int)) rfl rfl (by omega) (by omega)) ?_|refine zAb (zAi (r:=((16+min o.key.length 65536:Nat):Int)) rfl rfl (by omega) (by omega)) ?_|refine zAb (zAi (r:=((16+min o.key.length 65536+min o.val.length 65536:Nat):Int)) rfl rfl (by omega) (by omega)) ?_|refine zAb (zAi (r:=((M2:Nat):Int)) rfl rfl (by omega) (by omega)) ?_)|(refine zBg ?_;first|refine zAb (zAr rfl rfl q11) ?_|refine zAb (zAr rfl rfl q13) ?_)|(refine zAq ?_;refine zAb (zAe rfl rfl ql) ?_)|refine xst ?_|(refine xsa ?_;intro _)|(refine xsb ?_ ?_ <;>intro _<;>try (exfalso;omega))|refine xsc ?_|fail)
  all_goals refine zAv ⟨i+1,hlt⟩ (by show S.length-(i+1)<S.length-i;omega) (by rw [← hM2];exact xB) (xN)
theorem lives14_ct (hE:ErrsOn L16 W F) (hN:NibAt W) (hg:gB≤W.heap.size):Ct Tryz.prog W 4 [] [] (fun _:Unit=>.bool true) (fun _=>[]):=by
 obtain ⟨l,hl⟩:∃ l:Rows,l=[([97],[49]),([98],[50])]:=⟨_,rfl⟩
 have hcells:l.flatMap rC=[strV [97],strV [49],strV [98],strV [50]]:=by rw [hl];rfl
 have hlen:l.length=2:=by rw [hl];rfl
 have hI:LightI l:=light_in (by rw [hl];decide)
 have cs:=fun gb=>hstore_ct (W:=W) (F:=F) hE hN hg (zAh gb [strV [97],strV [49],strV [98],strV [50]] 36) (some ⟨gb,0,none⟩) 2 l (Lv.cells hcells) hI
 rw [hlen] at cs
 have hr0:RisR (ofR l):=(sum_ofR l).2
 have e0:ofR l=[([97],[49]),([98],[50])]:=by rw [hl];decide
 obtain ⟨r0,h0⟩:∃ r,r=ofR l:=⟨_,rfl⟩
 rw [← h0] at cs hr0 e0
 have cb:=fun s=>txbeginB (W:=W) (s:=s) (n:=400) (k:=2) (r:=r0) (by omega) hr0
 obtain ⟨r1,h1⟩:∃ r,r=putR r0 [99] [51]:=⟨_,rfl⟩
 obtain ⟨r2,h2⟩:∃ r,r=mdel r1 [98]:=⟨_,rfl⟩
 obtain ⟨r3,h3⟩:∃ r,r=putR r2 [97] [49]:=⟨_,rfl⟩
 have f1:r1=[([97],[49]),([98],[50]),([99],[51])]:=by rw [h1,e0];decide
 have f2:r2=[([97],[49]),([99],[51])]:=by rw [h2,f1];decide
 have f3:r3=[([97],[49]),([99],[51])]:=by rw [h3,f2];decide
 have c1:=fun s t=>txputB (W:=W) (M:=[]) (t:=t) (s:=s) (m:=0) (r0:=r0) (Rs:=[]) (r:=r0) [99] [51] (by rw [e0];decide) (by omega)
 have c2:=fun s t=>txdelB (W:=W) (M:=[]) (t:=t) (s:=s) (m:=1) (r0:=r0) (Rs:=[r0]) (r:=r1) [98] (by rw [f1];decide) (by omega)
 have c3:=fun s t=>txputB (W:=W) (M:=[]) (t:=t) (s:=s) (m:=2) (r0:=r0) (Rs:=[r0,r1]) (r:=r2) [97] [49] (by rw [f2];decide) (by omega)
 rw [← h1] at c1
 rw [← h2] at c2
 rw [← h3] at c3
 have co:=fun s t=>txopsB (W:=W) (M:=[]) (t:=t) (s:=s) (n:=400) (k:=2) (r0:=r0) (Rs:=[r0,r1,r2]) (r:=r3) (m:=3) (by omega)
 have eb:zAs r0 r3=[⟨true,[98],[]⟩,⟨false,[99],[51]⟩]:=by rw [e0,f3];decide
 rw [eb] at co
 have cg:=fun s t=>txgetB (W:=W) (M:=[]) (t:=t) (s:=s) (r0:=r0) (Rs:=[r0,r1,r2]) (r:=r3) (m:=3) [98]
 have el:lk r3 [98]=none:=by rw [f3];decide
 rw [el] at cg
 have cm:=fun s t=>txmarkB (W:=W) (M:=[]) (t:=t) (s:=s) (r0:=r0) (Rs:=[r0,r1,r2]) (r:=r3) (m:=3)
 clear h0 h1 h2 h3 f1 f2 f3 eb el e0 hl
 obtain ⟨os,hos⟩:∃ os:List BOp,os=[⟨true,[98],[]⟩,⟨false,[99],[51]⟩]:=⟨_,rfl⟩
 have o0:os[0]? = some ⟨true,[98],[]⟩:=by rw [hos];rfl
 have o1:os[1]? = some ⟨false,[99],[51]⟩:=by rw [hos];rfl
 have ol:os.length=2:=by rw [hos];rfl
 rw [← hos] at co
 refine Ct.enter Tryz.func4 rfl Tryz.ntmps4 (by simp) (fun R=>?_)
 repeat' (first|(refine zAd ?_;first|(refine zAc xE (cm _ _) xP rfl (fun _=>?_))|(refine zAc xE (cg _ _) xP rfl (fun _=>?_))|(refine zAc xE (co _ _) xP rfl (fun x=>?_);obtain ⟨xa,xc⟩:=x;refine KJ.lsSome (l:=os) (a:=xa) (c:=xc) (m:=os.length) xS (by omega) (fun gx hgx=>?_);subst hgx)|(refine zAc xE (c1 _ _) xP rfl (fun _=>?_))|(refine zAc xE (c2 _ _) xP rfl (fun _=>?_))|(refine zAc xE (c3 _ _) xP rfl (fun _=>?_))|(refine zAc xE (cb _) xP rfl (fun t=>?_))|(refine zAc xE (cs _) xP rfl (fun s=>?_)))|(refine zBi ?_;refine KJ_bsliceN (len:=2) (places:=[(0,2),(2,2)]) (base:=[strV [],strV [],strV [],strV []]) xV (by rfl) (by rfl) xW (by omega) rfl (fun gb=>?_))|(refine zAm ?_;first|refine zAb (Ev_loadLsF (j:=2) zCa rfl xS rfl (by rfl) o1 rfl) ?_|refine zAb (Ev_loadLsF (j:=0) zCa rfl xS rfl (by rfl) o0 rfl) ?_|refine zAb (Ev_loadLsF (j:=1) zCa rfl xS rfl (by rfl) o0 rfl) ?_)|(refine zAy ?_;refine zAb (zAz xV xW) ?_)|(refine zBg ?_;first|refine zAb (Ev_eqlS_t rfl rfl rfl) ?_|refine zAb (Ev_eqlI_t rfl rfl (show ((os.length:Nat):Int)=2 by omega)) ?_|refine zAb (zAr (q:=true) rfl rfl rfl) ?_)|refine xst ?_|(refine xsa ?_;intro _)|(refine xsb ?_ ?_ <;>intro _<;>try (exfalso;omega))|refine xsc ?_|fail)
 all_goals (exact xdn ())
end
end Go.Proofs.YtgipenahkmbelaaGreatDoor
