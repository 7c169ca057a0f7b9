/-
  StP7, StM1.
-/
import Derived.Test.YtahgdagcnkpnbaaGreatDoorZEL
import Derived.Test.YtahgdagcnkpnbaaGreatDoorZDN
import Derived.Test.YtahgdagcnkpnbaaGreatDoorZFO
set_option maxHeartbeats 64000000
namespace Go.Proofs.YtahgdagcnkpnbaaGreatDoor
open Go Go.RowKit
def pRow (k v:List UInt8) (done:Bool) (p:List UInt8 × List UInt8):Rows:=(if done=false∧Op.bytesLess k p.1=true then [(k,v)] else [])++(if p.1=k then [] else [p])
def pDone (k:List UInt8) (done:Bool) (p:List UInt8 × List UInt8):Bool:=done || Op.bytesLess k p.1
def pGo (k v:List UInt8):Bool→Rows→Rows
 |true,[]=>[]
 |false,[]=>[(k,v)]
 |done,p::r=>pRow k v done p++pGo k v (pDone k done p) r
theorem pGo_cons (k v:List UInt8) (done:Bool) (p:List UInt8 × List UInt8) (r:Rows):pGo k v done (p::r)=pRow k v done p++pGo k v (pDone k done p) r:=by cases done <;> rfl
theorem pGo_true (k v:List UInt8):∀ r:Rows,pGo k v true r=mdel r k
 |[]=>rfl
 |p::r=>by
  rw [pGo_cons]
  have e:pDone k true p=true:=rfl
  rw [e,pGo_true k v r]
  unfold pRow mdel
  rw [if_neg (by simp),List.filter_cons]
  by_cases h:p.1=k <;> simp [h]
theorem pGo_put (k v:List UInt8):∀ {r:Rows},RisR r→pGo k v false r=putR r k v
 |[],_=>rfl
 |p::r,h=>by
  rw [pGo_cons]
  have hr:RisR r:=(List.pairwise_cons.1 h).2
  have hp:∀ q ∈ r,Op.bytesLess p.1 q.1=true:=(List.pairwise_cons.1 h).1
  have e:pDone k false p=Op.bytesLess k p.1:=rfl
  rw [e]
  unfold pRow
  cases hc:Op.bytesLess k p.1 with
  |true=>
   have hne:p.1≠k:=fun e=>by rw [e,tl_irr] at hc;cases hc
   rw [if_pos ⟨rfl,rfl⟩,if_neg hne,pGo_true,mdel_none (lk_below fun q hq=>tl_tr hc (hp q hq))]
   exact (putR_l (A:=[]) (B:=r) v h hc).symm
  |false=>
   rw [if_neg (by simp),List.nil_append]
   by_cases hne:p.1=k
   ·rw [if_pos hne,List.nil_append,pGo_put k v hr]
    obtain ⟨p1,p2⟩:=p
    dsimp only at hne hp
    subst hne
    have e1:=putR_m (A:=[]) (B:=r) (k:=p1) (u:=p2) v h
    rw [List.nil_append,List.nil_append] at e1
    rw [e1]
    cases r with
    |nil=>rfl
    |cons q r=>exact putR_l (A:=[]) (B:=r) v hr (hp q (List.mem_cons_self ..))
   ·rw [if_neg hne,pGo_put k v hr]
    exact (putR_r (A:=[]) (B:=r) v h (tl_not hc fun e=>hne e.symm)).symm
theorem pGo_apply {r:Rows} (h:RisR r) (o:BOp):pGo o.key o.val o.del r=apply1 r o:=by
 unfold apply1
 cases o.del with
 |true=>rw [pGo_true];rfl
 |false=>rw [pGo_put _ _ h];rfl
theorem pGo_next {r:Rows} {i:Nat} {p:List UInt8 × List UInt8} (h:r[i]? = some p) (k v:List UInt8) (done:Bool) (out:Rows):out++pGo k v done (r.drop i)=(out++pRow k v done p)++pGo k v (pDone k done p) (r.drop (i+1)):=by
 have hi:=(List.getElem?_eq_some_iff.1 h).1
 have he:=(List.getElem?_eq_some_iff.1 h).2
 rw [List.drop_eq_getElem_cons hi,he,pGo_cons,List.append_assoc]
end Go.Proofs.YtahgdagcnkpnbaaGreatDoor
namespace Go.Proofs.YtahgdagcnkpnbaaGreatDoor
open Go Go.RowKit
theorem pGo_len (k v:List UInt8):∀ (r:Rows) (done:Bool),(pGo k v done r).length≤r.length+(if done=true then 0 else 1)
 |[],true=>by simp [pGo]
 |[],false=>by simp [pGo]
 |p::r,done=>by
  rw [pGo_cons,List.length_append,List.length_cons]
  have h1:=pGo_len k v r (pDone k done p)
  have h2:(pRow k v done p).length≤(if done=false∧Op.bytesLess k p.1=true then 1 else 0)+1:=by
   unfold pRow
   rw [List.length_append]
   have a1:(if done=false∧Op.bytesLess k p.1=true then [(k,v)] else []).length=if done=false∧Op.bytesLess k p.1=true then 1 else 0:=by split <;> rfl
   have a2:(if p.1=k then ([]:Rows) else [p]).length≤1:=by split <;> simp
   omega
  unfold pDone at h1 ⊢
  cases done <;> cases hc:Op.bytesLess k p.1 <;> simp [hc] at h1 h2 ⊢ <;> omega
section
variable {W:World} {F:Nat→Addr}
instance fn_put13:FnIs Tryz.prog 112:=⟨by kernel_rfl⟩
instance fn_behind13:FnIs Tryz.prog 49:=⟨by kernel_rfl⟩
theorem put13_ct (A:SP) (a:Option Addr) (c:Nat) (r:Rows) (o:BOp) (hL:Lv W rC 2 A a r) (h1:r.length≤1000000000) :
 Ct Tryz.prog W 112 [.slice a r.length c,.agg (opC o).toArray] [A] (fun x:Option Addr × Nat=>.slice x.1 (pGo o.key o.val o.del r).length x.2) (fun x=>[A,ropP x (pGo o.key o.val o.del r)]):=by
 obtain ⟨del,k,v⟩:=o
 dsimp only
 have hpl:=pGo_len k v r del
 obtain ⟨Z,hZ⟩:∃ Z,Z=pGo k v del r:=⟨_,rfl⟩
 rw [← hZ] at hpl ⊢
 have hZl:Z.length≤r.length+1:=by
  refine Nat.le_trans hpl ?_
  split <;> omega
 refine Ct.enter Tryz.func112 rfl Tryz.ntmps112 (by simp) (fun R=>?_)
 refine KJ.nilrow 51 2 ?_
 repeat' (first|(refine is_box ?_;refine KJ_box rfl xF rfl (fun g3=>?_))|refine xst ?_|(refine xsa ?_;intro _)|(refine xsb ?_ ?_ <;>intro _<;>try (exfalso;omega))|refine xsc ?_|fail)
 refine zBx (fun x:{x:Nat × Bool × Rows × Option Addr × Nat//x.1≤r.length∧x.2.2.1++pGo k v x.2.1 (r.drop x.1)=Z}=>[(3,.pointer (some ⟨g3,0,none⟩)),(5,.slice x.1.2.2.2.1 x.1.2.2.1.length x.1.2.2.2.2),(6,.bool x.1.2.1),(11,.slice a r.length c),(12,.int .i64 (r.length:Nat)),(13,.int .i64 (x.1.1:Nat))])
  (fun x=>[A,zAg g3 (opC ⟨del,k,v⟩) 43,lsP rC 51 2 (.slice x.1.2.2.2.1 x.1.2.2.1.length x.1.2.2.2.2) x.1.2.2.1]++R) (fun x=>r.length-x.1.1) ⟨(0,del,[],none,0),Nat.zero_le _,by rw [List.drop_zero,hZ];rfl⟩ xB (xN) (fun ⟨(i,done,out,xa,xc),hi,hinv⟩=>?_)
 dsimp only at hi hinv ⊢
 have hol:out.length≤Z.length:=by rw [← hinv,List.length_append];omega
 have m1:(out.length+1)*32≤140737488355328:=by omega
 have m2:out.length+1≤9223372036854775807:=by omega
 by_cases hlt:i<r.length
 ·have ql:decide ((i:Int)<(r.length:Nat))=true:=decide_eq_true (by omega)
  obtain ⟨p,hp⟩:∃ s,r[i]? = some s:=⟨_,List.getElem?_eq_getElem hlt⟩
  refine KJ.lvSome hL xS (by omega) (fun ba oa hab=>?_)
  subst hab
  have ho1:oa+Int.toNat (i:Int)*2=oa+i*2:=by rw [Int.toNat_natCast]
  rw [pGo_next hp] at hinv
  by_cases hins:done=false∧Op.bytesLess k p.1=true
  ·obtain ⟨hd,hk⟩:=hins
   subst hd
   have hne:p.1≠k:=fun e=>by rw [e,tl_irr] at hk;cases hk
   have e1:pRow k v false p=[(k,v)]++[p]:=by unfold pRow;rw [if_pos ⟨rfl,hk⟩,if_neg hne]
   have e2:pDone k false p=true:=hk
   rw [e1,e2,← List.append_assoc] at hinv
   have hl2:(out++[(k,v)]).length=out.length+1:=by simp
   have m3:((out++[(k,v)]).length+1)*32≤140737488355328:=by omega
   have m4:(out++[(k,v)]).length+1≤9223372036854775807:=by omega
   repeat' (first|(refine zBn ?_;refine zBk rfl (fun g8=>?_))|(refine zCb ?_;first|(refine KJ_appOne (l:=out++[(k,v)]) (a:=p) rC_ok rfl rfl rfl xS xS m3 m4 rfl (fun g' c'=>?_))|(refine KJ_appOne (l:=out) (a:=(k,v)) rC_ok rfl rfl rfl xS xS m1 m2 rfl (fun g' c'=>?_)))|(refine zBy ?_;refine KJ_bslice1 rfl xF (by rfl) (by omega) rfl (fun gb=>?_))|(refine zAj ?_;refine zAc (zCg rC_ok hL rfl rfl xS ho1 hp) ?_)|(refine ek_build ?_;refine zAc (Ev_build xV xW) ?_)|(refine zBg ?_;refine zAc (zAh (r:=((i+1:Nat):Int)) rfl rfl (by omega) (by omega)) ?_)|(refine zBa ?_;refine zAc (Ev_neqS_t rfl rfl hne) ?_)|(refine zAq ?_;first|refine zAc (Ev_lssS_q rfl rfl hk) ?_|refine zAc (zAe rfl rfl ql) ?_)|refine xst ?_|(refine xsa ?_;intro _)|(refine xsb ?_ ?_ <;>intro _<;>try (exfalso;omega))|refine xsc ?_|fail)
   all_goals refine zAz ⟨(i+1,true,out++[(k,v)]++[p],_,_),hlt,hinv⟩ (by show r.length-(i+1)<r.length-i;omega) xB (xN)
  ·have e1:pRow k v done p=(if p.1=k then [] else [p]):=by unfold pRow;rw [if_neg hins];rfl
   have e2:pDone k done p=done:=by
    unfold pDone
    cases done with
    |true=>rfl
    |false=>
     cases hk:Op.bytesLess k p.1 with
     |false=>rfl
     |true=>exact absurd ⟨rfl,hk⟩ hins
   rw [e1,e2] at hinv
   by_cases hkk:p.1=k
   ·rw [if_pos hkk,List.append_nil] at hinv
    cases done with
    |true=>
     repeat' (first|(refine zBn ?_;refine zBk rfl (fun g8=>?_))|(refine zAj ?_;refine zAc (zCg rC_ok hL rfl rfl xS ho1 hp) ?_)|(refine zBg ?_;refine zAc (zAh (r:=((i+1:Nat):Int)) rfl rfl (by omega) (by omega)) ?_)|(refine zBa ?_;refine zAc (Ev_neqS_f rfl rfl hkk) ?_)|(refine zAq ?_;refine zAc (zAe rfl rfl ql) ?_)|refine xst ?_|(refine xsa ?_;intro _)|(refine xsb ?_ ?_ <;>intro _<;>try (exfalso;omega))|refine xsc ?_|fail)
     all_goals refine zAz ⟨(i+1,true,out,xa,xc),hlt,hinv⟩ (by show r.length-(i+1)<r.length-i;omega) xB (xN)
    |false=>
     have hk:Op.bytesLess k p.1=false:=by rw [hkk];exact tl_irr k
     repeat' (first|(refine zBn ?_;refine zBk rfl (fun g8=>?_))|(refine zAj ?_;refine zAc (zCg rC_ok hL rfl rfl xS ho1 hp) ?_)|(refine zBg ?_;refine zAc (zAh (r:=((i+1:Nat):Int)) rfl rfl (by omega) (by omega)) ?_)|(refine zBa ?_;refine zAc (Ev_neqS_f rfl rfl hkk) ?_)|(refine zAq ?_;first|refine zAc (Ev_lssS_q rfl rfl hk) ?_|refine zAc (zAe rfl rfl ql) ?_)|refine xst ?_|(refine xsa ?_;intro _)|(refine xsb ?_ ?_ <;>intro _<;>try (exfalso;omega))|refine xsc ?_|fail)
     all_goals refine zAz ⟨(i+1,false,out,xa,xc),hlt,hinv⟩ (by show r.length-(i+1)<r.length-i;omega) xB (xN)
   ·rw [if_neg hkk] at hinv
    cases done with
    |true=>
     repeat' (first|(refine zBn ?_;refine zBk rfl (fun g8=>?_))|(refine zCb ?_;refine KJ_appOne (l:=out) (a:=p) rC_ok rfl rfl rfl xS xS m1 m2 rfl (fun g' c'=>?_))|(refine zBy ?_;refine KJ_bslice1 rfl xF (by rfl) (by omega) rfl (fun gb=>?_))|(refine zAj ?_;refine zAc (zCg rC_ok hL rfl rfl xS ho1 hp) ?_)|(refine zBg ?_;refine zAc (zAh (r:=((i+1:Nat):Int)) rfl rfl (by omega) (by omega)) ?_)|(refine zBa ?_;refine zAc (Ev_neqS_t rfl rfl hkk) ?_)|(refine zAq ?_;refine zAc (zAe rfl rfl ql) ?_)|refine xst ?_|(refine xsa ?_;intro _)|(refine xsb ?_ ?_ <;>intro _<;>try (exfalso;omega))|refine xsc ?_|fail)
     all_goals refine zAz ⟨(i+1,true,out++[p],_,_),hlt,hinv⟩ (by show r.length-(i+1)<r.length-i;omega) xB (xN)
    |false=>
     have hk:Op.bytesLess k p.1=false:=by
      cases hk:Op.bytesLess k p.1 with
      |false=>rfl
      |true=>exact absurd ⟨rfl,hk⟩ hins
     repeat' (first|(refine zBn ?_;refine zBk rfl (fun g8=>?_))|(refine zCb ?_;refine KJ_appOne (l:=out) (a:=p) rC_ok rfl rfl rfl xS xS m1 m2 rfl (fun g' c'=>?_))|(refine zBy ?_;refine KJ_bslice1 rfl xF (by rfl) (by omega) rfl (fun gb=>?_))|(refine zAj ?_;refine zAc (zCg rC_ok hL rfl rfl xS ho1 hp) ?_)|(refine zBg ?_;refine zAc (zAh (r:=((i+1:Nat):Int)) rfl rfl (by omega) (by omega)) ?_)|(refine zBa ?_;refine zAc (Ev_neqS_t rfl rfl hkk) ?_)|(refine zAq ?_;first|refine zAc (Ev_lssS_q rfl rfl hk) ?_|refine zAc (zAe rfl rfl ql) ?_)|refine xst ?_|(refine xsa ?_;intro _)|(refine xsb ?_ ?_ <;>intro _<;>try (exfalso;omega))|refine xsc ?_|fail)
     all_goals refine zAz ⟨(i+1,false,out++[p],_,_),hlt,hinv⟩ (by show r.length-(i+1)<r.length-i;omega) xB (xN)
 have ql:decide ((i:Int)<(r.length:Nat))=false:=decide_eq_false (by omega)
 rw [List.drop_of_length_le (by omega)] at hinv
 cases done with
 |true=>
  rw [show pGo k v true []=[] from rfl,List.append_nil] at hinv
  subst hinv
  repeat' (first|(refine zAq ?_;refine zAc (zAe rfl rfl ql) ?_)|refine xst ?_|(refine xsa ?_;intro _)|(refine xsb ?_ ?_ <;>intro _<;>try (exfalso;omega))|refine xsc ?_|fail)
  all_goals (exact xdn (xa,xc))
 |false=>
  rw [show pGo k v false []=[(k,v)] from rfl] at hinv
  subst hinv
  repeat' (first|(refine zCb ?_;refine KJ_appOne (l:=out) (a:=(k,v)) rC_ok rfl rfl rfl xS xS m1 m2 rfl (fun g' c'=>?_))|(refine zBy ?_;refine KJ_bslice1 rfl xF (by rfl) (by omega) rfl (fun gb=>?_))|(refine ek_build ?_;refine zAc (Ev_build xV xW) ?_)|(refine zAq ?_;refine zAc (zAe rfl rfl ql) ?_)|refine xst ?_|(refine xsa ?_;intro _)|(refine xsb ?_ ?_ <;>intro _<;>try (exfalso;omega))|refine xsc ?_|fail)
  all_goals (exact xdn (some ⟨g',0,none⟩,c'))
theorem take_apply {r:Rows} {ops:List BOp} {i:Nat} {o:BOp} (h:ops[i]? = some o):zAx r (ops.take (i+1))=apply1 (zAx r (ops.take i)) o:=by
 rw [List.take_add_one,h]
 unfold zAx
 rw [List.foldl_append]
 rfl
theorem behind13_ct (A B:SP) (a b:Option Addr) (c d:Nat) (r:Rows) (ops:List BOp) (hA:Lv W rC 2 A a r) (hB:Lv W opC 3 B b ops) (hr:RisR r) (h1:r.length≤100000000) (h2:ops.length≤100000000) :
 Ct Tryz.prog W 49 [.slice a r.length c,.slice b ops.length d] [A,B] (fun x:Option Addr × Nat=>.slice x.1 (zAx r ops).length x.2) (fun x=>[A,B,ropP x (zAx r ops)]):=by
 have b1:(([]:Rows).length+r.length)*32≤140737488355328:=by simp;omega
 have b2:([]:Rows).length+r.length≤9223372036854775807:=by simp;omega
 refine Ct.enter Tryz.func49 rfl Tryz.ntmps49 (by simp) (fun R=>?_)
 refine KJ.lvOpen hA xS (fun b0 o0 hab=>?_)
 repeat' (first|(refine zCb ?_;refine KJ_appAll (l:=([]:Rows)) (l2:=r) rC_ok rfl rfl rfl rfl xS (Src.lv hA hab xS) b1 b2 rfl (fun a1 c1=>?_))|(refine zBy ?_;refine KJ_bslice0 rfl (fun g0=>?_))|refine xst ?_|(refine xsa ?_;intro _)|(refine xsb ?_ ?_ <;>intro _<;>try (exfalso;omega))|refine xsc ?_|fail)
 all_goals simp only [List.nil_append]
 refine zBx (fun x:{x:Nat × Rows × Option Addr × Nat//x.1≤ops.length∧x.2.1=zAx r (ops.take x.1)}=>[(5,.slice x.1.2.2.1 x.1.2.1.length x.1.2.2.2),(11,.slice b ops.length d),(12,.int .i64 (ops.length:Nat)),(13,.int .i64 (x.1.1:Nat))])
  (fun x=>[A,B,lsP rC 51 2 (.slice x.1.2.2.1 x.1.2.1.length x.1.2.2.2) x.1.2.1]++R) (fun x=>ops.length-x.1.1) ⟨(0,r,a1,c1),Nat.zero_le _,rfl⟩ xB (xN) (fun ⟨(i,q,xa,xc),hi,hq⟩=>?_)
 dsimp only at hi hq ⊢
 by_cases hlt:i<ops.length
 ·have ql:decide ((i:Int)<(ops.length:Nat))=true:=decide_eq_true (by omega)
  obtain ⟨o,ho⟩:∃ s,ops[i]? = some s:=⟨_,List.getElem?_eq_getElem hlt⟩
  refine KJ.lvSome hB xS (by omega) (fun ba oa hab=>?_)
  subst hab
  have ho1:oa+Int.toNat (i:Int)*3=oa+i*3:=by rw [Int.toNat_natCast]
  have hqr:RisR q:=by rw [hq];exact applyB_ris hr _
  have hql:q.length≤200000000:=by
   have e1:=applyB_len (ops.take i) r
   have e2:(ops.take i).length≤i:=List.length_take_le ..
   rw [← hq] at e1
   omega
  have cp:=put13_ct (W:=W) (lsP rC 51 2 (.slice xa q.length xc) q) xa xc q o (Lv.own rC_ok rfl) (by omega)
  have hnx:pGo o.key o.val o.del q=zAx r (ops.take (i+1)):=by rw [pGo_apply hqr,take_apply ho,hq]
  rw [hnx] at cp
  repeat' (first|(refine zBn ?_;refine zBk rfl (fun g8=>?_))|(refine zAd ?_;refine zAa xE cp xP rfl (fun y=>?_);obtain ⟨ya,yc⟩:=y)|(refine zAj ?_;refine zAc (zCg enc_op hB rfl rfl xS ho1 ho) ?_)|(refine zBg ?_;refine zAc (zAh (r:=((i+1:Nat):Int)) rfl rfl (by omega) (by omega)) ?_)|(refine zAq ?_;refine zAc (zAe rfl rfl ql) ?_)|refine xst ?_|(refine xsa ?_;intro _)|(refine xsb ?_ ?_ <;>intro _<;>try (exfalso;omega))|refine xsc ?_|fail)
  all_goals refine zAz ⟨(i+1,zAx r (ops.take (i+1)),ya,yc),hlt,rfl⟩ (by show ops.length-(i+1)<ops.length-i;omega) xB (xN)
 have ql:decide ((i:Int)<(ops.length:Nat))=false:=decide_eq_false (by omega)
 obtain rfl:i=ops.length:=by omega
 rw [List.take_length] at hq
 subst hq
 repeat' (first|(refine zAq ?_;refine zAc (zAe rfl rfl ql) ?_)|refine xst ?_|(refine xsa ?_;intro _)|(refine xsb ?_ ?_ <;>intro _<;>try (exfalso;omega))|refine xsc ?_|fail)
 all_goals (exact xdn (xa,xc))
end
end Go.Proofs.YtahgdagcnkpnbaaGreatDoor
