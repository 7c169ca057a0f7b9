/-
  StP7, StM1, StM2, StM3.
-/
import Derived.Test.YtahgdagcnkpnbaaGreatDoorQFJ
import Derived.Test.YtahgdagcnkpnbaaGreatDoorQFK
import Derived.Test.YtahgdagcnkpnbaaGreatDoorQFR
import Derived.Test.YtahgdagcnkpnbaaGreatDoorQFQ
import Derived.Test.YtahgdagcnkpnbaaGreatDoorQFP
set_option maxHeartbeats 64000000
namespace Go.Proofs.YtahgdagcnkpnbaaGreatDoor
open Go Go.RowKit
abbrev zBt:Pl:=(.op 0 (.op 1 (.op 2 (.op 4 (.op 6 (.alt (.ef 3 [6,4] (.alt (.ef 5 [6] (.ef 7 [] (.ef 8 [] (.op 9 .nil)))) (.ef 7 [4] (.ef 5 [] (.ef 8 [] (.op 9 .nil)))))) (.ef 7 [4,2,1,0] (.ef 3 [4] (.ef 5 [] (.ef 8 [] (.op 9 .nil)))))))))))
abbrev zBs:Pl:=(.op 0 (.op 1 (.op 2 (.op 3 (.op 4 (.ef 5 [] (.op 6 (.op 7 (.op 8 (.op 9 (.op 10 (.op 11 (.op 12 (.op 13 (.op 14 (.op 15 .nil))))))))))))))))
def pRow (k v:List UInt8) (done:Bool) (p:List UInt8 × List UInt8):Rows:=(if done=false∧Op.bytesLess k p.1=true then [(k,v)] else [])++(if p.1=k then [] else [p])
def pDone (k:List UInt8) (done:Bool) (p:List UInt8 × List UInt8):Bool:=done || Op.bytesLess k p.1
def pGo (k v:List UInt8):Bool→Rows→Rows
 |true,[]=>[]
 |false,[]=>[(k,v)]
 |done,p::r=>pRow k v done p++pGo k v (pDone k done p) r
theorem pGo_cons (k v:List UInt8) (done:Bool) (p:List UInt8 × List UInt8) (r:Rows):pGo k v done (p::r)=pRow k v done p++pGo k v (pDone k done p) r:=by cases done <;> rfl
theorem pGo_true (k v:List UInt8):∀ r:Rows,pGo k v true r=mdel r k
 |[]=>rfl
 |p::r=>by
  rw [pGo_cons]
  have e:pDone k true p=true:=rfl
  rw [e,pGo_true k v r]
  unfold pRow mdel
  rw [if_neg (by simp),List.filter_cons]
  by_cases h:p.1=k <;> simp [h]
theorem pGo_put (k v:List UInt8):∀ {r:Rows},RisR r→pGo k v false r=putR r k v
 |[],_=>rfl
 |p::r,h=>by
  rw [pGo_cons]
  have hr:RisR r:=(List.pairwise_cons.1 h).2
  have hp:∀ q ∈ r,Op.bytesLess p.1 q.1=true:=(List.pairwise_cons.1 h).1
  have e:pDone k false p=Op.bytesLess k p.1:=rfl
  rw [e]
  unfold pRow
  cases hc:Op.bytesLess k p.1 with
  |true=>
   have hne:p.1≠k:=fun e=>by rw [e,tl_irr] at hc;cases hc
   rw [if_pos ⟨rfl,rfl⟩,if_neg hne,pGo_true,mdel_none (lk_below fun q hq=>tl_tr hc (hp q hq))]
   exact (putR_l (A:=[]) (B:=r) v h hc).symm
  |false=>
   rw [if_neg (by simp),List.nil_append]
   by_cases hne:p.1=k
   ·rw [if_pos hne,List.nil_append,pGo_put k v hr]
    obtain ⟨p1,p2⟩:=p
    dsimp only at hne hp
    subst hne
    have e1:=putR_m (A:=[]) (B:=r) (k:=p1) (u:=p2) v h
    rw [List.nil_append,List.nil_append] at e1
    rw [e1]
    cases r with
    |nil=>rfl
    |cons q r=>exact putR_l (A:=[]) (B:=r) v hr (hp q (List.mem_cons_self ..))
   ·rw [if_neg hne,pGo_put k v hr]
    exact (putR_r (A:=[]) (B:=r) v h (tl_not hc fun e=>hne e.symm)).symm
theorem pGo_apply {r:Rows} (h:RisR r) (o:BOp):pGo o.key o.val o.del r=apply1 r o:=by
 unfold apply1
 cases o.del with
 |true=>rw [pGo_true];rfl
 |false=>rw [pGo_put _ _ h];rfl
theorem pGo_next {r:Rows} {i:Nat} {p:List UInt8 × List UInt8} (h:r[i]? = some p) (k v:List UInt8) (done:Bool) (out:Rows):out++pGo k v done (r.drop i)=(out++pRow k v done p)++pGo k v (pDone k done p) (r.drop (i+1)):=by
 have hi:=(List.getElem?_eq_some_iff.1 h).1
 have he:=(List.getElem?_eq_some_iff.1 h).2
 rw [List.drop_eq_getElem_cons hi,he,pGo_cons,List.append_assoc]
end Go.Proofs.YtahgdagcnkpnbaaGreatDoor
namespace Go.Proofs.YtahgdagcnkpnbaaGreatDoor
open Go Go.RowKit
theorem pGo_len (k v:List UInt8):∀ (r:Rows) (done:Bool),(pGo k v done r).length≤r.length+(if done=true then 0 else 1)
 |[],true=>by simp [pGo]
 |[],false=>by simp [pGo]
 |p::r,done=>by
  rw [pGo_cons,List.length_append,List.length_cons]
  have h1:=pGo_len k v r (pDone k done p)
  have h2:(pRow k v done p).length≤(if done=false∧Op.bytesLess k p.1=true then 1 else 0)+1:=by
   unfold pRow
   rw [List.length_append]
   have a1:(if done=false∧Op.bytesLess k p.1=true then [(k,v)] else []).length=if done=false∧Op.bytesLess k p.1=true then 1 else 0:=by split <;> rfl
   have a2:(if p.1=k then ([]:Rows) else [p]).length≤1:=by split <;> simp
   omega
  unfold pDone at h1 ⊢
  cases done <;> cases hc:Op.bytesLess k p.1 <;> simp [hc] at h1 h2 ⊢ <;> omega
section
variable {W:World} {F:Nat→Addr}
instance fn_put13:FnIs Tryz.prog 112:=⟨by kernel_rfl⟩
instance fn_behind13:FnIs Tryz.prog 49:=⟨by kernel_rfl⟩
theorem put13_ct (A:SP) (a:Option Addr) (c:Nat) (r:Rows) (o:BOp) (hL:Lv W rC 2 A a r) (h1:r.length≤1000000000) :
 Ct Tryz.prog W 112 [.slice a r.length c,.agg (opC o).toArray] [A] (fun x:Option Addr × Nat=>.slice x.1 (pGo o.key o.val o.del r).length x.2) (fun x=>[A,ropP x (pGo o.key o.val o.del r)]):=by
 obtain ⟨del,k,v⟩:=o
 dsimp only
 have hpl:=pGo_len k v r del
 obtain ⟨Z,hZ⟩:∃ Z,Z=pGo k v del r:=⟨_,rfl⟩
 rw [← hZ] at hpl ⊢
 have hZl:Z.length≤r.length+1:=by
  refine Nat.le_trans hpl ?_
  split <;> omega
 refine Ct.enter Tryz.func112 rfl Tryz.ntmps112 (by simp) (fun R=>?_)
 refine KJ.nilrow 51 2 ?_
 repeat' (first|(refine is_box ?_;refine KJ_box rfl xF rfl (fun g3=>?_))|refine xst ?_|(refine xsa ?_;intro _)|(refine xsb ?_ ?_ <;>intro _<;>try (exfalso;omega))|refine xsc ?_|fail)
 refine zBk (fun x:{x:Nat × Bool × Rows × Option Addr × Nat//x.1≤r.length∧x.2.2.1++pGo k v x.2.1 (r.drop x.1)=Z}=>[(3,.pointer (some ⟨g3,0,none⟩)),(5,.slice x.1.2.2.2.1 x.1.2.2.1.length x.1.2.2.2.2),(6,.bool x.1.2.1),(11,.slice a r.length c),(12,.int .i64 (r.length:Nat)),(13,.int .i64 (x.1.1:Nat))])
  (fun x=>[A,zAf g3 (opC ⟨del,k,v⟩) 43,lsP rC 51 2 (.slice x.1.2.2.2.1 x.1.2.2.1.length x.1.2.2.2.2) x.1.2.2.1]++R) (fun x=>r.length-x.1.1) ⟨(0,del,[],none,0),Nat.zero_le _,by rw [List.drop_zero,hZ];rfl⟩ xB (xN) (fun ⟨(i,done,out,xa,xc),hi,hinv⟩=>?_)
 dsimp only at hi hinv ⊢
 have hol:out.length≤Z.length:=by rw [← hinv,List.length_append];omega
 have m1:(out.length+1)*32≤140737488355328:=by omega
 have m2:out.length+1≤9223372036854775807:=by omega
 by_cases hlt:i<r.length
 ·have ql:decide ((i:Int)<(r.length:Nat))=true:=decide_eq_true (by omega)
  obtain ⟨p,hp⟩:∃ s,r[i]? = some s:=⟨_,List.getElem?_eq_getElem hlt⟩
  refine KJ.lvSome hL xS (by omega) (fun ba oa hab=>?_)
  subst hab
  have ho1:oa+Int.toNat (i:Int)*2=oa+i*2:=by rw [Int.toNat_natCast]
  rw [pGo_next hp] at hinv
  by_cases hins:done=false∧Op.bytesLess k p.1=true
  ·obtain ⟨hd,hk⟩:=hins
   subst hd
   have hne:p.1≠k:=fun e=>by rw [e,tl_irr] at hk;cases hk
   have e1:pRow k v false p=[(k,v)]++[p]:=by unfold pRow;rw [if_pos ⟨rfl,hk⟩,if_neg hne]
   have e2:pDone k false p=true:=hk
   rw [e1,e2,← List.append_assoc] at hinv
   have hl2:(out++[(k,v)]).length=out.length+1:=by simp
   have m3:((out++[(k,v)]).length+1)*32≤140737488355328:=by omega
   have m4:(out++[(k,v)]).length+1≤9223372036854775807:=by omega
   repeat' (first|(refine zBe ?_;refine zBb rfl (fun g8=>?_))|(refine zBv ?_;first|(refine KJ_appOne (l:=out++[(k,v)]) (a:=p) rC_ok rfl rfl rfl xS xS m3 m4 rfl (fun g' c'=>?_))|(refine KJ_appOne (l:=out) (a:=(k,v)) rC_ok rfl rfl rfl xS xS m1 m2 rfl (fun g' c'=>?_)))|(refine zBq ?_;refine zBz rfl xF (by rfl) (by omega) rfl (fun gb=>?_))|(refine zAi ?_;refine zAc (zBx rC_ok hL rfl rfl xS ho1 hp) ?_)|(refine zCd ?_;refine zAc (zCe xV xW) ?_)|(refine zAz ?_;refine zAc (zAh (r:=((i+1:Nat):Int)) rfl rfl (by omega) (by omega)) ?_)|(refine zBc ?_;refine zAc (Ev_neqS_t rfl rfl hne) ?_)|(refine zAn ?_;first|refine zAc (Ev_lssS_q rfl rfl hk) ?_|refine zAc (zAe rfl rfl ql) ?_)|refine xst ?_|(refine xsa ?_;intro _)|(refine xsb ?_ ?_ <;>intro _<;>try (exfalso;omega))|refine xsc ?_|fail)
   all_goals refine zAs ⟨(i+1,true,out++[(k,v)]++[p],_,_),hlt,hinv⟩ (by show r.length-(i+1)<r.length-i;omega) xB (xN)
  ·have e1:pRow k v done p=(if p.1=k then [] else [p]):=by unfold pRow;rw [if_neg hins];rfl
   have e2:pDone k done p=done:=by
    unfold pDone
    cases done with
    |true=>rfl
    |false=>
     cases hk:Op.bytesLess k p.1 with
     |false=>rfl
     |true=>exact absurd ⟨rfl,hk⟩ hins
   rw [e1,e2] at hinv
   by_cases hkk:p.1=k
   ·rw [if_pos hkk,List.append_nil] at hinv
    cases done with
    |true=>
     repeat' (first|(refine zBe ?_;refine zBb rfl (fun g8=>?_))|(refine zAi ?_;refine zAc (zBx rC_ok hL rfl rfl xS ho1 hp) ?_)|(refine zAz ?_;refine zAc (zAh (r:=((i+1:Nat):Int)) rfl rfl (by omega) (by omega)) ?_)|(refine zBc ?_;refine zAc (Ev_neqS_f rfl rfl hkk) ?_)|(refine zAn ?_;refine zAc (zAe rfl rfl ql) ?_)|refine xst ?_|(refine xsa ?_;intro _)|(refine xsb ?_ ?_ <;>intro _<;>try (exfalso;omega))|refine xsc ?_|fail)
     all_goals refine zAs ⟨(i+1,true,out,xa,xc),hlt,hinv⟩ (by show r.length-(i+1)<r.length-i;omega) xB (xN)
    |false=>
     have hk:Op.bytesLess k p.1=false:=by rw [hkk];exact tl_irr k
     repeat' (first|(refine zBe ?_;refine zBb rfl (fun g8=>?_))|(refine zAi ?_;refine zAc (zBx rC_ok hL rfl rfl xS ho1 hp) ?_)|(refine zAz ?_;refine zAc (zAh (r:=((i+1:Nat):Int)) rfl rfl (by omega) (by omega)) ?_)|(refine zBc ?_;refine zAc (Ev_neqS_f rfl rfl hkk) ?_)|(refine zAn ?_;first|refine zAc (Ev_lssS_q rfl rfl hk) ?_|refine zAc (zAe rfl rfl ql) ?_)|refine xst ?_|(refine xsa ?_;intro _)|(refine xsb ?_ ?_ <;>intro _<;>try (exfalso;omega))|refine xsc ?_|fail)
     all_goals refine zAs ⟨(i+1,false,out,xa,xc),hlt,hinv⟩ (by show r.length-(i+1)<r.length-i;omega) xB (xN)
   ·rw [if_neg hkk] at hinv
    cases done with
    |true=>
     repeat' (first|(refine zBe ?_;refine zBb rfl (fun g8=>?_))|(refine zBv ?_;refine KJ_appOne (l:=out) (a:=p) rC_ok rfl rfl rfl xS xS m1 m2 rfl (fun g' c'=>?_))|(refine zBq ?_;refine zBz rfl xF (by rfl) (by omega) rfl (fun gb=>?_))|(refine zAi ?_;refine zAc (zBx rC_ok hL rfl rfl xS ho1 hp) ?_)|(refine zAz ?_;refine zAc (zAh (r:=((i+1:Nat):Int)) rfl rfl (by omega) (by omega)) ?_)|(refine zBc ?_;refine zAc (Ev_neqS_t rfl rfl hkk) ?_)|(refine zAn ?_;refine zAc (zAe rfl rfl ql) ?_)|refine xst ?_|(refine xsa ?_;intro _)|(refine xsb ?_ ?_ <;>intro _<;>try (exfalso;omega))|refine xsc ?_|fail)
     all_goals refine zAs ⟨(i+1,true,out++[p],_,_),hlt,hinv⟩ (by show r.length-(i+1)<r.length-i;omega) xB (xN)
    |false=>
     have hk:Op.bytesLess k p.1=false:=by
      cases hk:Op.bytesLess k p.1 with
      |false=>rfl
      |true=>exact absurd ⟨rfl,hk⟩ hins
     repeat' (first|(refine zBe ?_;refine zBb rfl (fun g8=>?_))|(refine zBv ?_;refine KJ_appOne (l:=out) (a:=p) rC_ok rfl rfl rfl xS xS m1 m2 rfl (fun g' c'=>?_))|(refine zBq ?_;refine zBz rfl xF (by rfl) (by omega) rfl (fun gb=>?_))|(refine zAi ?_;refine zAc (zBx rC_ok hL rfl rfl xS ho1 hp) ?_)|(refine zAz ?_;refine zAc (zAh (r:=((i+1:Nat):Int)) rfl rfl (by omega) (by omega)) ?_)|(refine zBc ?_;refine zAc (Ev_neqS_t rfl rfl hkk) ?_)|(refine zAn ?_;first|refine zAc (Ev_lssS_q rfl rfl hk) ?_|refine zAc (zAe rfl rfl ql) ?_)|refine xst ?_|(refine xsa ?_;intro _)|(refine xsb ?_ ?_ <;>intro _<;>try (exfalso;omega))|refine xsc ?_|fail)
     all_goals refine zAs ⟨(i+1,false,out++[p],_,_),hlt,hinv⟩ (by show r.length-(i+1)<r.length-i;omega) xB (xN)
 have ql:decide ((i:Int)<(r.length:Nat))=false:=decide_eq_false (by omega)
 rw [List.drop_of_length_le (by omega)] at hinv
 cases done with
 |true=>
  rw [show pGo k v true []=[] from rfl,List.append_nil] at hinv
  subst hinv
  repeat' (first|(refine zAn ?_;refine zAc (zAe rfl rfl ql) ?_)|refine xst ?_|(refine xsa ?_;intro _)|(refine xsb ?_ ?_ <;>intro _<;>try (exfalso;omega))|refine xsc ?_|fail)
  all_goals (exact xdn (xa,xc))
 |false=>
  rw [show pGo k v false []=[(k,v)] from rfl] at hinv
  subst hinv
  repeat' (first|(refine zBv ?_;refine KJ_appOne (l:=out) (a:=(k,v)) rC_ok rfl rfl rfl xS xS m1 m2 rfl (fun g' c'=>?_))|(refine zBq ?_;refine zBz rfl xF (by rfl) (by omega) rfl (fun gb=>?_))|(refine zCd ?_;refine zAc (zCe xV xW) ?_)|(refine zAn ?_;refine zAc (zAe rfl rfl ql) ?_)|refine xst ?_|(refine xsa ?_;intro _)|(refine xsb ?_ ?_ <;>intro _<;>try (exfalso;omega))|refine xsc ?_|fail)
  all_goals (exact xdn (some ⟨g',0,none⟩,c'))
theorem take_apply {r:Rows} {ops:List BOp} {i:Nat} {o:BOp} (h:ops[i]? = some o):zAw r (ops.take (i+1))=apply1 (zAw r (ops.take i)) o:=by
 rw [List.take_add_one,h]
 unfold zAw
 rw [List.foldl_append]
 rfl
theorem behind13_ct (A B:SP) (a b:Option Addr) (c d:Nat) (r:Rows) (ops:List BOp) (hA:Lv W rC 2 A a r) (hB:Lv W opC 3 B b ops) (hr:RisR r) (h1:r.length≤100000000) (h2:ops.length≤100000000) :
 Ct Tryz.prog W 49 [.slice a r.length c,.slice b ops.length d] [A,B] (fun x:Option Addr × Nat=>.slice x.1 (zAw r ops).length x.2) (fun x=>[A,B,ropP x (zAw r ops)]):=by
 have b1:(([]:Rows).length+r.length)*32≤140737488355328:=by simp;omega
 have b2:([]:Rows).length+r.length≤9223372036854775807:=by simp;omega
 refine Ct.enter Tryz.func49 rfl Tryz.ntmps49 (by simp) (fun R=>?_)
 refine KJ.lvOpen hA xS (fun b0 o0 hab=>?_)
 repeat' (first|(refine zBv ?_;refine KJ_appAll (l:=([]:Rows)) (l2:=r) rC_ok rfl rfl rfl rfl xS (Src.lv hA hab xS) b1 b2 rfl (fun a1 c1=>?_))|(refine zBq ?_;refine KJ_bslice0 rfl (fun g0=>?_))|refine xst ?_|(refine xsa ?_;intro _)|(refine xsb ?_ ?_ <;>intro _<;>try (exfalso;omega))|refine xsc ?_|fail)
 all_goals simp only [List.nil_append]
 refine zBk (fun x:{x:Nat × Rows × Option Addr × Nat//x.1≤ops.length∧x.2.1=zAw r (ops.take x.1)}=>[(5,.slice x.1.2.2.1 x.1.2.1.length x.1.2.2.2),(11,.slice b ops.length d),(12,.int .i64 (ops.length:Nat)),(13,.int .i64 (x.1.1:Nat))])
  (fun x=>[A,B,lsP rC 51 2 (.slice x.1.2.2.1 x.1.2.1.length x.1.2.2.2) x.1.2.1]++R) (fun x=>ops.length-x.1.1) ⟨(0,r,a1,c1),Nat.zero_le _,rfl⟩ xB (xN) (fun ⟨(i,q,xa,xc),hi,hq⟩=>?_)
 dsimp only at hi hq ⊢
 by_cases hlt:i<ops.length
 ·have ql:decide ((i:Int)<(ops.length:Nat))=true:=decide_eq_true (by omega)
  obtain ⟨o,ho⟩:∃ s,ops[i]? = some s:=⟨_,List.getElem?_eq_getElem hlt⟩
  refine KJ.lvSome hB xS (by omega) (fun ba oa hab=>?_)
  subst hab
  have ho1:oa+Int.toNat (i:Int)*3=oa+i*3:=by rw [Int.toNat_natCast]
  have hqr:RisR q:=by rw [hq];exact applyB_ris hr _
  have hql:q.length≤200000000:=by
   have e1:=applyB_len (ops.take i) r
   have e2:(ops.take i).length≤i:=List.length_take_le ..
   rw [← hq] at e1
   omega
  have cp:=put13_ct (W:=W) (lsP rC 51 2 (.slice xa q.length xc) q) xa xc q o (Lv.own rC_ok rfl) (by omega)
  have hnx:pGo o.key o.val o.del q=zAw r (ops.take (i+1)):=by rw [pGo_apply hqr,take_apply ho,hq]
  rw [hnx] at cp
  repeat' (first|(refine zBe ?_;refine zBb rfl (fun g8=>?_))|(refine zAd ?_;refine zAb xE cp xP rfl (fun y=>?_);obtain ⟨ya,yc⟩:=y)|(refine zAi ?_;refine zAc (zBx zCg hB rfl rfl xS ho1 ho) ?_)|(refine zAz ?_;refine zAc (zAh (r:=((i+1:Nat):Int)) rfl rfl (by omega) (by omega)) ?_)|(refine zAn ?_;refine zAc (zAe rfl rfl ql) ?_)|refine xst ?_|(refine xsa ?_;intro _)|(refine xsb ?_ ?_ <;>intro _<;>try (exfalso;omega))|refine xsc ?_|fail)
  all_goals refine zAs ⟨(i+1,zAw r (ops.take (i+1)),ya,yc),hlt,rfl⟩ (by show ops.length-(i+1)<ops.length-i;omega) xB (xN)
 have ql:decide ((i:Int)<(ops.length:Nat))=false:=decide_eq_false (by omega)
 obtain rfl:i=ops.length:=by omega
 rw [List.take_length] at hq
 subst hq
 repeat' (first|(refine zAn ?_;refine zAc (zAe rfl rfl ql) ?_)|refine xst ?_|(refine xsa ?_;intro _)|(refine xsb ?_ ?_ <;>intro _<;>try (exfalso;omega))|refine xsc ?_|fail)
 all_goals (exact xdn (xa,xc))
end
end Go.Proofs.YtahgdagcnkpnbaaGreatDoor
namespace Go.Proofs.YtahgdagcnkpnbaaGreatDoor
open Go Go.RowKit
abbrev ffB:List UInt8:=[255,255]
theorem vis_next {r:Rows} {i:Nat} {p:List UInt8 × List UInt8} (h:r[i]? = some p):(r.take (i+1)).filter (fun p=>Op.bytesLess p.1 ffB)=(r.take i).filter (fun p=>Op.bytesLess p.1 ffB)++(if Op.bytesLess p.1 ffB=true then [p] else []):=by
 rw [List.take_add_one,h,List.filter_append]
 congr 1
 cases e:Op.bytesLess p.1 ffB <;> simp [e]
section
variable {W:World} {F:Nat→Addr} {s d q n:Nat} {a:Option Addr} {b:Int} {N:List Nd}
instance fn_srange13:FnIs Tryz.prog 50:=⟨by kernel_rfl⟩
instance fn_tbrange13:FnIs Tryz.prog 113:=⟨by kernel_rfl⟩
instance fn_walked13:FnIs Tryz.prog 51:=⟨by kernel_rfl⟩
theorem srange_ct (v:Int) (lg:Option Addr) (life:Int) (dead:Bool) (lo hi:List UInt8):Ct Tryz.prog W 50 [.pointer (some ⟨s,0,none⟩),strV lo,strV hi] [stP s d q n v lg life dead,tbP q a b] rngV (fun x=>[stP s d q n v lg life dead,tbP q a b]++rngP x a lo hi):=by
 have cr:=tbrange_ct (W:=W) (p:=q) (a:=a) (b:=b) lo hi
 refine Ct.enter Tryz.func50 rfl Tryz.ntmps50 (by simp) (fun R=>?_)
 repeat' (first|(refine zAd ?_;refine zAb xE cr xP rfl (fun z=>?_);obtain ⟨y1,y2,y3⟩:=z)|refine xst ?_|(refine xsa ?_;intro _)|(refine xsb ?_ ?_ <;>intro _<;>try (exfalso;omega))|refine xsc ?_|fail)
 all_goals (exact xdn (y1,y2,y3))
theorem walked13_ct (A:SP) (oa:Option Addr) (oc:Nat) (r:Rows) (hL:Lv W rC 2 A oa r) (hris:RisR r) (hl:r.length≤100000000) (x1 x2 x3:Nat) (t:Tr) (hR:RgOk N a t [] ffB (visN ffB r)) (hfr:t.frm []=r) (stop:Int) :
 Ct Tryz.prog W 51 [rngV (x1,x2,x3),.slice oa r.length oc,.int .i64 stop] ([A]++(rngP (x1,x2,x3) a [] ffB++[arP N])) (fun _:Unit=>.bool true) (fun _=>[A]++(rngP (x1,x2,x3) a [] ffB++[arP N])):=by
 have hfil:=visN_filter (hi:=ffB) hris
 have hvl:visN ffB r≤r.length:=visN_le ffB r
 obtain ⟨vn,hvn⟩:∃ v,v=visN ffB r:=⟨_,rfl⟩
 rw [← hvn] at hR hfil hvl
 refine Ct.enter Tryz.func51 rfl Tryz.ntmps51 (by simp) (fun R=>?_)
 refine KJ.nilrow 51 2 ?_
 repeat' (first|(refine zBe ?_;first|(refine zBb (d:=7) rfl (fun g7=>?_))|(refine zBb (d:=6) rfl (fun g6=>?_)))|(refine is_box ?_;refine KJ_box rfl xF rfl (fun g5=>?_))|refine xst ?_|(refine xsa ?_;intro _)|(refine xsb ?_ ?_ <;>intro _<;>try (exfalso;omega))|refine xsc ?_|fail)
 refine zBk (fun x:{x:Nat × Rows × Option Addr × Nat//x.1≤r.length∧x.2.1=(r.take x.1).filter (fun p=>Op.bytesLess p.1 ffB)}=>[(0,rngV (x1,x2,x3)),(5,.pointer (some ⟨g5,0,none⟩)),(6,.pointer (some ⟨g6,0,none⟩)),(7,.pointer (some ⟨g7,0,none⟩)),(13,.slice oa r.length oc),(14,.int .i64 (r.length:Nat)),(15,.int .i64 (x.1.1:Nat))])
  (fun x=>[A,zAf x1 [.pointer a] 195,zAf x2 [strV []] 9,zAf x3 [strV ffB] 9,arP N,zAf g5 [.int .i64 stop] 3,zAf g6 [.bool false] 4,zAf g7 [.slice x.1.2.2.1 x.1.2.1.length x.1.2.2.2] 22,lsP rC 51 2 (.slice x.1.2.2.1 x.1.2.1.length x.1.2.2.2) x.1.2.1]++R) (fun x=>r.length-x.1.1) ⟨(0,[],none,0),Nat.zero_le _,rfl⟩ xB (xN) (fun ⟨(i,T,xa,xc),hi,hT⟩=>?_)
 dsimp only at hi hT ⊢
 have hTl:T.length≤i:=by
  rw [hT]
  exact Nat.le_trans (List.length_filter_le ..) (List.length_take_le ..)
 by_cases hlt:i<r.length
 ·have ql:decide ((i:Int)<(r.length:Nat))=true:=decide_eq_true (by omega)
  obtain ⟨p,hp⟩:∃ s,r[i]? = some s:=⟨_,List.getElem?_eq_getElem hlt⟩
  have hnx:=vis_next hp
  rw [← hT] at hnx
  refine KJ.lvSome hL xS (by omega) (fun ba ob hab=>?_)
  subst hab
  have ho1:ob+Int.toNat (i:Int)*2=ob+i*2:=by rw [Int.toNat_natCast]
  have m1:(T.length+1)*32≤140737488355328:=by omega
  have m2:T.length+1≤9223372036854775807:=by omega
  cases hb:Op.bytesLess p.1 ffB with
  |true=>
   rw [if_pos hb] at hnx
   repeat' (first|(refine zBe ?_;refine zBb rfl (fun g9=>?_))|(refine zBv ?_;refine KJ_appOne (l:=T) (a:=p) rC_ok rfl rfl rfl xS xS m1 m2 rfl (fun g' c'=>?_))|(refine zBq ?_;refine zBz rfl xF (by rfl) (by omega) rfl (fun gb=>?_))|(refine zAi ?_;refine zAc (zBx rC_ok hL rfl rfl xS ho1 hp) ?_)|(refine zAz ?_;refine zAc (zAh (r:=((i+1:Nat):Int)) rfl rfl (by omega) (by omega)) ?_)|(refine zAn ?_;first|refine zAc (Ev_lssS_q rfl rfl hb) ?_|refine zAc (zAe rfl rfl ql) ?_)|refine xst ?_|(refine xsa ?_;intro _)|(refine xsb ?_ ?_ <;>intro _<;>try (exfalso;omega))|refine xsc ?_|fail)
   all_goals refine zAs ⟨(i+1,T++[p],_,_),hlt,hnx.symm⟩ (by show r.length-(i+1)<r.length-i;omega) xB (xN)
  |false=>
   rw [if_neg (by rw [hb];decide),List.append_nil] at hnx
   repeat' (first|(refine zBe ?_;refine zBb rfl (fun g9=>?_))|(refine zAi ?_;refine zAc (zBx rC_ok hL rfl rfl xS ho1 hp) ?_)|(refine zAz ?_;refine zAc (zAh (r:=((i+1:Nat):Int)) rfl rfl (by omega) (by omega)) ?_)|(refine zAn ?_;first|refine zAc (Ev_lssS_q rfl rfl hb) ?_|refine zAc (zAe rfl rfl ql) ?_)|refine xst ?_|(refine xsa ?_;intro _)|(refine xsb ?_ ?_ <;>intro _<;>try (exfalso;omega))|refine xsc ?_|fail)
   all_goals refine zAs ⟨(i+1,T,xa,xc),hlt,hnx.symm⟩ (by show r.length-(i+1)<r.length-i;omega) xB (xN)
 have ql:decide ((i:Int)<(r.length:Nat))=false:=decide_eq_false (by omega)
 obtain rfl:i=r.length:=by omega
 rw [List.take_length,hfil] at hT
 have hTn:T.length=vn:=by rw [hT,List.length_take];omega
 have hTi:∀ i p,r[i]? = some p→i<vn→T[i]? = some p:=fun i p h h2=>by rw [hT,List.getElem?_take,if_pos h2];exact h
 clear hT
 repeat' (first|(refine zBe ?_;refine zBb (d:=10) rfl (fun g10=>?_))|(refine zAn ?_;refine zAc (zAe rfl rfl ql) ?_)|refine xst ?_|(refine xsa ?_;intro _)|(refine xsb ?_ ?_ <;>intro _<;>try (exfalso;omega))|refine xsc ?_|fail)
 refine KJ.allShut (L:=[zAf g10 [.int .i64 (0:Nat)] 3,zAf g7 [.slice xa T.length xc] 22,lsP rC 51 2 (.slice xa T.length xc) T,zAf g5 [.int .i64 stop] 3,zAf g6 [.bool false] 4]) 95 xP ?_
 refine KJ_rangeRng (x:=(x1,x2,x3)) (a:=a) (N:=N) rfl rfl hR rfl (by decide) (fun i=>allP 95 [zAf g10 [.int .i64 (i:Nat)] 3,zAf g7 [.slice xa T.length xc] 22,lsP rC 51 2 (.slice xa T.length xc) T,zAf g5 [.int .i64 stop] 3,zAf g6 [.bool false] 4]) (fun _=>allP 96 [zAf g6 [.bool true] 4]) .ret xP (fun l i p hp him R'=>?_) ?_ (fun i him=>?_)
 ·rw [hfr] at hp
  have hTp:=hTi i p hp him
  dsimp only [Env.ofPs]
  refine KJ.allOpen (L:=[zAf g10 [.int .i64 (i:Nat)] 3,zAf g7 [.slice xa T.length xc] 22,lsP rC 51 2 (.slice xa T.length xc) T,zAf g5 [.int .i64 stop] 3,zAf g6 [.bool false] 4]) xS ?_
  refine KJ.lsSome (l:=T) (a:=xa) (c:=xc) (m:=T.length) xS (by omega) (fun gt hgt=>?_)
  subst hgt
  have qg:(!decide ((i:Int)<((T.length:Nat):Int)))=false:=by rw [decide_eq_true (by omega)];rfl
  have ho0:0+Int.toNat ((i:Nat):Int)*2+0=i*2+0:=by simp
  have ho2:0+Int.toNat ((i:Nat):Int)*2+1=i*2+1:=by simp
  by_cases hs:((i+1:Nat):Int)=stop
  ·have qe:decide (((i+1:Nat):Int)=stop)=true:=decide_eq_true hs
   repeat' (first|(refine is_begin ?_;refine KJ_begin xS ?_)|(refine zAi ?_;first|refine zAc (Ev_loadLsF (j:=1) rC_ok rfl xS rfl ho2 hTp rfl) ?_|refine zAc (Ev_loadLsF (j:=0) rC_ok rfl xS rfl ho0 hTp rfl) ?_)|(refine zAz ?_;refine zAc (zAh (r:=((i+1:Nat):Int)) rfl rfl (by omega) (by omega)) ?_)|(refine zBn ?_;refine zAc (zAu rfl rfl qe) ?_)|(refine zBc ?_;refine zAc (Ev_neqS_f rfl rfl rfl) ?_)|(refine ek_geq ?_;refine zAc (zBd rfl rfl qg) ?_)|refine xst ?_|(refine xsa ?_;intro _)|(refine xsb ?_ ?_ <;>intro _<;>try (exfalso;omega))|refine xsc ?_|fail)
   refine KJ.allShut (L:=[zAf g6 [.bool true] 4]) 96 xP ?_
   exact KJ_round_r xS (xN)
  ·have qe:decide (((i+1:Nat):Int)=stop)=false:=decide_eq_false hs
   repeat' (first|(refine is_begin ?_;refine KJ_begin xS ?_)|(refine zAi ?_;first|refine zAc (Ev_loadLsF (j:=1) rC_ok rfl xS rfl ho2 hTp rfl) ?_|refine zAc (Ev_loadLsF (j:=0) rC_ok rfl xS rfl ho0 hTp rfl) ?_)|(refine zAz ?_;refine zAc (zAh (r:=((i+1:Nat):Int)) rfl rfl (by omega) (by omega)) ?_)|(refine zBn ?_;refine zAc (zAu rfl rfl qe) ?_)|(refine zBc ?_;refine zAc (Ev_neqS_f rfl rfl rfl) ?_)|(refine ek_geq ?_;refine zAc (zBd rfl rfl qg) ?_)|refine xst ?_|(refine xsa ?_;intro _)|(refine xsb ?_ ?_ <;>intro _<;>try (exfalso;omega))|refine xsc ?_|fail)
   refine KJ.allShut (L:=[zAf g10 [.int .i64 (i+1:Nat)] 3,zAf g7 [.slice (some ⟨gt,0,none⟩) T.length xc] 22,lsP rC 51 2 (.slice (some ⟨gt,0,none⟩) T.length xc) T,zAf g5 [.int .i64 stop] 3,zAf g6 [.bool false] 4]) 95 xP ?_
   exact KJ_round_t xS (xN)
 ·refine KJ.allOpen (L:=[zAf g10 [.int .i64 (vn:Nat)] 3,zAf g7 [.slice xa T.length xc] 22,lsP rC 51 2 (.slice xa T.length xc) T,zAf g5 [.int .i64 stop] 3,zAf g6 [.bool false] 4]) xS ?_
  have qe:decide (((vn:Nat):Int)=((T.length:Nat):Int))=true:=decide_eq_true (by omega)
  repeat' (first|(refine zBn ?_;refine zAc (zAu rfl rfl qe) ?_)|refine xst ?_|(refine xsa ?_;intro _)|(refine xsb ?_ ?_ <;>intro _<;>try (exfalso;omega))|refine xsc ?_|fail)
  all_goals (refine is_ex ?_;exact KJ_done (by first|exact Or.inl rfl|exact Or.inr rfl) rfl (Rvs.cell (T:=4) rfl inferInstance xS rfl Rvs.nil) () (by rfl) (xN))
 ·refine KJ.allOpen (L:=[zAf g6 [.bool true] 4]) xS ?_
  repeat' (first|refine xst ?_|(refine xsa ?_;intro _)|(refine xsb ?_ ?_ <;>intro _<;>try (exfalso;omega))|refine xsc ?_|fail)
  all_goals (refine is_ex ?_;exact KJ_done (by first|exact Or.inl rfl|exact Or.inr rfl) rfl (Rvs.cell (T:=4) rfl inferInstance xS rfl Rvs.nil) () (by rfl) (xN))
end
end Go.Proofs.YtahgdagcnkpnbaaGreatDoor
namespace Go.Proofs.YtahgdagcnkpnbaaGreatDoor
open Go Go.RowKit
abbrev mkS:BOp:=⟨false,[115,112,97,114,101],[114,111,111,109]⟩
abbrev spS:BOp:=⟨false,[115,112,111,105,108,116],[115,112,111,105,108,116]⟩
abbrev mkR:List UInt8 × List UInt8:=([109,97,114,107,101,100],[])
abbrev grR:List UInt8 × List UInt8:=([103,114,111,119,110],[])
section
variable {W:World} {F:Nat→Addr}
set_option maxRecDepth 100000 in
theorem memory13_ct (hE:ErrsAt W F) (hN:NibAt W) (hg:gB≤W.heap.size) (A B:SP) (a b:Option Addr) (c d:Nat) (first next:List BOp) (stop:Int) (hA:Lv W opC 3 A a first) (hB:Lv W opC 3 B b next) (hf:OpsFit first) (hx:OpsFit next) :
 Ct Tryz.prog W 8 [.slice a first.length c,.slice b next.length d,.int .i64 stop] [A,B] (fun _:Unit=>.bool true) (fun _=>[A,B]):=by
 have hE16:ErrsOn L16 W F:=hE.to16
 have hE8:ErrsOn L8 W F:=hE16.to8
 have cL:=fixed13_ct hE hN hg
 have cn:Ct Tryz.prog W 38 [.int .i64 64] [] (fun p:Nat=>.tuple #[.pointer (some ⟨p,0,none⟩),.nilIface]) (fun p=>[DiskP p (Dsk.blank 64)]):=new_ct 64 (by omega) (by omega) hg
 have hfl:=hf.len
 have hxl:=hx.len
 have c17:=numA_ct hE hg 17 (by omega)
 obtain ⟨r0,hr0⟩:∃ r,zAw [] first=r:=⟨_,rfl⟩
 have hris0:RisR r0:=by rw [← hr0];exact applyB_ris List.Pairwise.nil _
 have hsn0:(zAr r0).length≤4611686018427387904:=by rw [← hr0];exact hf.snap List.Pairwise.nil (by show (1:Nat)≤_;omega)
 have b1:(([]:List BOp).length+first.length)*40≤140737488355328:=by simp;omega
 have b2:([]:List BOp).length+first.length≤9223372036854775807:=by simp;omega
 have b3:(([]++first:List BOp).length+1)*40≤140737488355328:=by simp;omega
 have b4:([]++first:List BOp).length+1≤9223372036854775807:=by simp;omega
 refine Ct.enter Tryz.func8 rfl Tryz.ntmps8 (by simp) (fun R=>?_)
 refine KJ.lvOpen hA xS (fun b0 o0 hab=>?_)
 repeat' (first|(refine zBw (id:=7) ?_;refine hold ?_)|(refine zBe ?_;refine zBb (d:=9) rfl (fun g9=>?_))|(refine zAd ?_;first|(refine zAb xE cn xP rfl (fun p=>?_))|(refine zAb xE cL xP rfl (fun _=>?_)))|(refine zCd ?_;refine zAc (zCe xV xW) ?_)|refine xst ?_|(refine xsa ?_;intro _)|(refine xsb ?_ ?_ <;>intro _<;>try (exfalso;omega))|refine xsc ?_|(refine zAa (id:=7) zBt (by kernel_rfl) (by kernel_rfl) ?_)|(refine zAa (id:=9) zBs (by kernel_rfl) (by kernel_rfl) ?_)|(refine zAa (id:=35) zBt (by kernel_rfl) (by kernel_rfl) ?_)|(refine zAa (id:=37) zBs (by kernel_rfl) (by kernel_rfl) ?_)|refine zAk ?_ ?_|refine zAj rfl rfl rfl rfl rfl ?_ ?_|refine zAg ?_ ?_|exact Rech.nil|fail)
 refine Hold.mk ?_
 apply KJ_rest (fun Kc=>∀ (a2 c2:Nat),KJ W 207 Kc [(0,.slice a first.length c),(1,.slice b next.length d),(2,.int .i64 stop),(7,.pointer (some ⟨p,0,none⟩)),(9,.pointer (some ⟨g9,0,none⟩)),(10,.slice (some ⟨a2,0,none⟩) ([]++first++[mkS]:List BOp).length c2)]
  ([A,B,DiskP p (Dsk.blank 64),zAf g9 (opC mkS) 43,lsP opC 43 3 (.slice (some ⟨a2,0,none⟩) ([]++first++[mkS]:List BOp).length c2) ([]++first++[mkS])]++R))
 ·intro rest
  repeat' (first|(refine zBw (id:=8) ?_;exact KJ.weak (rest a2 c2) xB (xN))|(refine zBv ?_;first|(refine KJ_appOne (l:=([]++first:List BOp)) (a:=mkS) zCg rfl rfl rfl xS xS b3 b4 rfl (fun a2 c2=>?_))|(refine KJ_appAll (l:=([]:List BOp)) (l2:=first) zCg rfl rfl rfl rfl xS (Src.lv hA hab xS) b1 b2 rfl (fun a1 c1=>?_)))|(refine is_mkSlice ?_;refine KJ_make0 (m:=first.length+1) (bytes:=40) rfl rfl rfl (by omega) (by omega) rfl (fun gm cm=>?_))|(refine zBq ?_;refine zBz rfl xF (by rfl) (by omega) rfl (fun gb=>?_);show KJ W _ _ _ (zAf gb (opC mkS) 43::_))|(refine zAz ?_;refine zAc (zAh (r:=((first.length+1:Nat):Int)) rfl rfl (by omega) (by omega)) ?_)|refine xst ?_|(refine xsa ?_;intro _)|(refine xsb ?_ ?_ <;>intro _<;>try (exfalso;omega))|refine xsc ?_|(refine zAa (id:=7) zBt (by kernel_rfl) (by kernel_rfl) ?_)|(refine zAa (id:=9) zBs (by kernel_rfl) (by kernel_rfl) ?_)|(refine zAa (id:=35) zBt (by kernel_rfl) (by kernel_rfl) ?_)|(refine zAa (id:=37) zBs (by kernel_rfl) (by kernel_rfl) ?_)|refine zAk ?_ ?_|refine zAj rfl rfl rfl rfl rfl ?_ ?_|refine zAg ?_ ?_|exact Rech.nil|fail)
 intro a2 c2
 obtain ⟨L,hL⟩:∃ L,L=([]++first++[mkS]:List BOp):=⟨_,rfl⟩
 rw [← hL]
 rw [List.nil_append] at hL
 have hLl:L.length=first.length+1:=by rw [hL];simp
 have hLt:L.take first.length=first:=by rw [hL,List.take_left]
 have hLx:L[first.length]? = some mkS:=by rw [hL,List.getElem?_append_right (Nat.le_refl _),Nat.sub_self];rfl
 clear hL b1 b2 b3 b4
 obtain ⟨ia,hia⟩:∃ x:Option Addr,x=some ⟨a2,0,none⟩:=⟨_,rfl⟩
 rw [← hia]
 refine KJ.slOk (l:=L) (a:=ia) (c:=c2) (m:=L.length) xS (fun hsl=>?_)
 have hLv:Lv W opC 3 (lsP opC 43 3 (.slice ia L.length c2) L) ia first:=by
  have:=Lv.take (W:=W) (e:=43) (a:=ia) (c:=c2) (i:=first.length) zCg (show L.length=L.length from rfl)
  rwa [hLt] at this
 have hcl:=hsl.2
 have cs1:=sops13_ct (W:=W) (lsP opC 43 3 (.slice ia L.length c2) L) A ia a c2 c first hLv hA (by omega)
 have hoff:0+Int.toNat ((first.length:Nat):Int)*3=first.length*3:=by simp
 have hqm:(!decide (mkS=mkS))=false:=by simp
 have hA64:layA 64=20:=by decide
 by_cases hbig:234*layA 64<(zAr r0).length
 ·have cf:=sformatF_ct (W:=W) (F:=F) (d:=p) hE16 hE8 hN (by omega) (by omega) (lsP opC 43 3 (.slice ia L.length c2) L) ia c2 first hLv (by omega) r0 hr0 hbig hsn0
  have hne:=errNe (F:=F) (e:=17) (by omega)
  subst hia
  repeat' (first|(refine zAd ?_;first|(refine zAb xE c17 xP rfl (fun _=>?_))|(refine zAb xE cs1 xP rfl (fun _=>?_))|(refine zAb xE cf xP rfl (fun _=>?_)))|(refine zAi ?_;refine zAc (Ev_loadLs zCg rfl xS rfl hoff hLx) ?_)|(refine ek_slice ?_;refine zAc (Ev_sliceToB rfl rfl hsl.1 (by omega)) ?_)|(refine zBn ?_;refine zAc (zAu (q:=true) rfl rfl rfl) ?_)|(refine zBc ?_;first|refine zAc (Ev_neqNil rfl hne) ?_|refine zAc (Ev_neqSt rfl rfl (op14_eqF mkS mkS Tryz.underlying43) hqm) ?_)|refine xst ?_|(refine xsa ?_;intro _)|(refine xsb ?_ ?_ <;>intro _<;>try (exfalso;omega))|refine xsc ?_|(refine zAa (id:=7) zBt (by kernel_rfl) (by kernel_rfl) ?_)|(refine zAa (id:=9) zBs (by kernel_rfl) (by kernel_rfl) ?_)|(refine zAa (id:=35) zBt (by kernel_rfl) (by kernel_rfl) ?_)|(refine zAa (id:=37) zBs (by kernel_rfl) (by kernel_rfl) ?_)|refine zAk ?_ ?_|refine zAj rfl rfl rfl rfl rfl ?_ ?_|refine zAg ?_ ?_|exact Rech.nil|fail)
  all_goals (exact xdn ())
 have hsn:(zAr r0).length≤234*layA 64:=by omega
 obtain ⟨hrl,hrs⟩:=rows_room hsn (by omega)
 have cf:=snewF_ct (W:=W) (F:=F) (d:=p) hE16 hE8 hN (by omega) (by omega) (lsP opC 43 3 (.slice ia L.length c2) L) ia c2 first hLv (by omega) hr0 hsn
 have co:=snewX_ct (W:=W) (F:=F) (d:=p) hE16 hE8 hN (by omega) (by omega) hris0 hsn
 subst hia
 repeat' (first|(refine zAd ?_;first|(refine zAb xE cs1 xP rfl (fun _=>?_))|(refine zAb xE cf xP rfl (fun _=>?_)))|(refine zAi ?_;refine zAc (Ev_loadLs zCg rfl xS rfl hoff hLx) ?_)|(refine ek_slice ?_;refine zAc (Ev_sliceToB rfl rfl hsl.1 (by omega)) ?_)|(refine zBc ?_;refine zAc (Ev_neqSt rfl rfl (op14_eqF mkS mkS Tryz.underlying43) hqm) ?_)|refine xst ?_|(refine xsa ?_;intro _)|(refine xsb ?_ ?_ <;>intro _<;>try (exfalso;omega))|refine xsc ?_|(refine zAa (id:=7) zBt (by kernel_rfl) (by kernel_rfl) ?_)|(refine zAa (id:=9) zBs (by kernel_rfl) (by kernel_rfl) ?_)|(refine zAa (id:=35) zBt (by kernel_rfl) (by kernel_rfl) ?_)|(refine zAa (id:=37) zBs (by kernel_rfl) (by kernel_rfl) ?_)|refine zAk ?_ ?_|refine zAj rfl rfl rfl rfl rfl ?_ ?_|refine zAg ?_ ?_|exact Rech.nil|fail)
 clear cs1 cf hLv
 refine zBk (fun x:{x:Nat × List BOp//x.1≤L.length∧x.2.length=L.length}=>[(7,.pointer (some ⟨p,0,none⟩)),(9,.pointer (some ⟨g9,0,none⟩)),(10,.slice (some ⟨a2,0,none⟩) L.length c2),(0,.slice a first.length c),(1,.slice b next.length d),(2,.int .i64 stop),(72,.slice (some ⟨a2,0,none⟩) L.length c2),(73,.int .i64 (L.length:Nat)),(74,.int .i64 (x.1.1:Nat))])
  (fun x=>[A,B,zAf g9 (opC mkS) 43,DiskP p (fmtD 64 r0),lsP opC 43 3 (.slice (some ⟨a2,0,none⟩) L.length c2) x.1.2]++R) (fun x=>L.length-x.1.1) ⟨(0,L),Nat.zero_le _,rfl⟩ xB (xN) (fun ⟨(i,M),hi,hM⟩=>?_)
 dsimp only at hi hM ⊢
 by_cases hlt:i<L.length
 ·have ql:decide ((i:Int)<(L.length:Nat))=true:=decide_eq_true (by omega)
  have hof:0+Int.toNat ((i:Nat):Int)*3=i*3:=by simp
  repeat' (first|(refine is_store ?_;refine KJ_storeLs (l:=M) (a:=mkS) zCg rfl rfl xS hM.symm hof (by omega) ?_)|(refine zAz ?_;refine zAc (zAh (r:=((i+1:Nat):Int)) rfl rfl (by omega) (by omega)) ?_)|(refine zAn ?_;refine zAc (zAe rfl rfl ql) ?_)|refine xst ?_|(refine xsa ?_;intro _)|(refine xsb ?_ ?_ <;>intro _<;>try (exfalso;omega))|refine xsc ?_|(refine zAa (id:=7) zBt (by kernel_rfl) (by kernel_rfl) ?_)|(refine zAa (id:=9) zBs (by kernel_rfl) (by kernel_rfl) ?_)|(refine zAa (id:=35) zBt (by kernel_rfl) (by kernel_rfl) ?_)|(refine zAa (id:=37) zBs (by kernel_rfl) (by kernel_rfl) ?_)|refine zAk ?_ ?_|refine zAj rfl rfl rfl rfl rfl ?_ ?_|refine zAg ?_ ?_|exact Rech.nil|fail)
  all_goals refine zAs ⟨(i+1,M.set i mkS),hlt,by rw [List.length_set];exact hM⟩ (by show L.length-(i+1)<L.length-i;omega) xB (xN)
 have ql:decide ((i:Int)<(L.length:Nat))=false:=decide_eq_false (by omega)
 have cb:Ct Tryz.prog W 49 [.slice none 0 0,.slice a first.length c] [noP,A] (fun x:Option Addr × Nat=>.slice x.1 (zAw [] first).length x.2) (fun x=>[noP,A,ropP x (zAw [] first)]):=behind13_ct (W:=W) noP A none a 0 c [] first (Lv.old rC_ok ⟨none,0,rfl,fun h=>absurd rfl h⟩) hA List.Pairwise.nil (Nat.zero_le _) (by omega)
 rw [hr0] at cb
 refine KJ.noP ?_
 repeat' (first|(refine zBw (id:=22) ?_;refine hold ?_)|(refine zAd ?_;first|(refine zAb xE cb xP rfl (fun x=>?_);obtain ⟨qa,qc⟩:=x)|(refine zAb xE co xP rfl (fun y=>?_);obtain ⟨s,⟨⟨xd,q,g,v,used,D,N,ta,tb⟩,hI,hd,hv,hu,hD⟩⟩:=y;dsimp only at hd hv hu hD ⊢;subst hd))|(refine zAn ?_;refine zAc (zAe rfl rfl ql) ?_)|refine xst ?_|(refine xsa ?_;intro _)|(refine xsb ?_ ?_ <;>intro _<;>try (exfalso;omega))|refine xsc ?_|(refine zAa (id:=7) zBt (by kernel_rfl) (by kernel_rfl) ?_)|(refine zAa (id:=9) zBs (by kernel_rfl) (by kernel_rfl) ?_)|(refine zAa (id:=35) zBt (by kernel_rfl) (by kernel_rfl) ?_)|(refine zAa (id:=37) zBs (by kernel_rfl) (by kernel_rfl) ?_)|refine zAk ?_ ?_|refine zAj rfl rfl rfl rfl rfl ?_ ?_|refine zAg ?_ ?_|exact Rech.nil|fail)
 refine Hold.mk ?_
 have hT:TbOk N ta r0:=hI.tab
 obtain ⟨tr,hR,hfr⟩:=rg_of hT [] ffB
 rw [fromR_nil] at hR hfr
 have cr:=srows_ct (W:=W) (s:=s) (d:=xd) (q:=q) (n:=64) (b:=tb) (v:Nat) (some ⟨g,0,none⟩) D.life false hT (by omega)
 have cg:=srange_ct (W:=W) (s:=s) (d:=xd) (q:=q) (n:=64) (a:=ta) (b:=tb) (v:Nat) (some ⟨g,0,none⟩) D.life false [] ffB
 have cse:=fun (x y:Option Addr × Nat)=>srows13_ct (W:=W) (ropP x r0) (ropP y r0) x.1 y.1 x.2 y.2 r0 (Lv.own (e:=51) (c:=x.2) rC_ok rfl) (Lv.own (e:=51) (c:=y.2) rC_ok rfl) (by omega)
 repeat' (first|(refine zBw (id:=23) ?_;refine hold ?_)|(refine zAd ?_;first|(refine zAb xE cg xP rfl (fun z=>?_))|(refine zAb (d:=98) xE cr xP rfl (fun xb=>?_))|(refine zAb (d:=96) xE cr xP rfl (fun xa=>?_)))|refine xst ?_|(refine xsa ?_;intro _)|(refine xsb ?_ ?_ <;>intro _<;>try (exfalso;omega))|refine xsc ?_|(refine zAa (id:=7) zBt (by kernel_rfl) (by kernel_rfl) ?_)|(refine zAa (id:=9) zBs (by kernel_rfl) (by kernel_rfl) ?_)|(refine zAa (id:=35) zBt (by kernel_rfl) (by kernel_rfl) ?_)|(refine zAa (id:=37) zBs (by kernel_rfl) (by kernel_rfl) ?_)|refine zAk ?_ ?_|refine zAj rfl rfl rfl rfl rfl ?_ ?_|refine zAg ?_ ?_|exact Rech.nil|fail)
 refine Hold.mk ?_
 obtain ⟨xa,ca⟩:=xa
 obtain ⟨xb,cb2⟩:=xb
 obtain ⟨z1,z2,z3⟩:=z
 have ce1:=cse (xa,ca) (qa,qc)
 have ce2:=cse (xb,cb2) (qa,qc)
 repeat' (first|(refine zAd ?_;first|(refine zAb xE ce2 xP rfl (fun _=>?_))|(refine zAb xE ce1 xP rfl (fun _=>?_)))|(refine zBn ?_;refine zAc (Ev_eqlFn14 rfl rfl) ?_)|refine xst ?_|(refine xsa ?_;intro _)|(refine xsb ?_ ?_ <;>intro _<;>try (exfalso;omega))|refine xsc ?_|(refine zAa (id:=7) zBt (by kernel_rfl) (by kernel_rfl) ?_)|(refine zAa (id:=9) zBs (by kernel_rfl) (by kernel_rfl) ?_)|(refine zAa (id:=35) zBt (by kernel_rfl) (by kernel_rfl) ?_)|(refine zAa (id:=37) zBs (by kernel_rfl) (by kernel_rfl) ?_)|refine zAk ?_ ?_|refine zAj rfl rfl rfl rfl rfl ?_ ?_|refine zAg ?_ ?_|exact Rech.nil|fail)
 obtain ⟨H0,hH0⟩:∃ H:List SP,H=[A,B,zAf g9 (opC mkS) 43,stP s xd q 64 (v:Nat) (some ⟨g,0,none⟩) D.life false,DiskP xd D,tbP q ta tb,arP N,jouU g xd 64 v used D.life,ropP (qa,qc) r0,ropP (xb,cb2) r0,zAf z1 [.pointer ta] 195,zAf z2 [strV []] 9,zAf z3 [strV ffB] 9]:=⟨_,rfl⟩
 refine zBk (fun x:{x:Nat × Rows//x.1≤r0.length∧x.2.length=r0.length}=>[(9,.pointer (some ⟨g9,0,none⟩)),(12,.pointer (some ⟨s,0,none⟩)),(13,.slice qa r0.length qc),(14,.slice xa r0.length ca),(15,.slice xb r0.length cb2),(16,rngV (z1,z2,z3)),(0,.slice a first.length c),(1,.slice b next.length d),(2,.int .i64 stop),(115,.slice xa r0.length ca),(116,.int .i64 (r0.length:Nat)),(117,.int .i64 (x.1.1:Nat))])
  (fun x=>[A,B,zAf g9 (opC mkS) 43,stP s xd q 64 (v:Nat) (some ⟨g,0,none⟩) D.life false,DiskP xd D,tbP q ta tb,arP N,jouU g xd 64 v used D.life,ropP (qa,qc) r0,ropP (xb,cb2) r0,zAf z1 [.pointer ta] 195,zAf z2 [strV []] 9,zAf z3 [strV ffB] 9,lsP rC 51 2 (.slice xa r0.length ca) x.1.2]++R) (fun x=>r0.length-x.1.1) ⟨(0,r0),Nat.zero_le _,rfl⟩ xB (xN) (fun ⟨(i,M),hi,hM⟩=>?_)
 clear hH0 H0
 dsimp only at hi hM ⊢
 by_cases hlt:i<r0.length
 ·have ql:decide ((i:Int)<(r0.length:Nat))=true:=decide_eq_true (by omega)
  refine KJ.lsSome (l:=M) (a:=xa) (c:=ca) (m:=r0.length) xS (by omega) (fun ga hga=>?_)
  subst hga
  have hof:0+Int.toNat ((i:Nat):Int)*2=i*2:=by simp
  repeat' (first|(refine is_store ?_;refine KJ_storeLs (l:=M) (a:=mkR) rC_ok rfl rfl xS hM.symm hof (by omega) ?_)|(refine zCd ?_;refine zAc (zCe xV xW) ?_)|(refine zAz ?_;refine zAc (zAh (r:=((i+1:Nat):Int)) rfl rfl (by omega) (by omega)) ?_)|(refine zAn ?_;refine zAc (zAe rfl rfl ql) ?_)|refine xst ?_|(refine xsa ?_;intro _)|(refine xsb ?_ ?_ <;>intro _<;>try (exfalso;omega))|refine xsc ?_|(refine zAa (id:=7) zBt (by kernel_rfl) (by kernel_rfl) ?_)|(refine zAa (id:=9) zBs (by kernel_rfl) (by kernel_rfl) ?_)|(refine zAa (id:=35) zBt (by kernel_rfl) (by kernel_rfl) ?_)|(refine zAa (id:=37) zBs (by kernel_rfl) (by kernel_rfl) ?_)|refine zAk ?_ ?_|refine zAj rfl rfl rfl rfl rfl ?_ ?_|refine zAg ?_ ?_|exact Rech.nil|fail)
  all_goals refine zAs ⟨(i+1,M.set i mkR),hlt,by rw [List.length_set];exact hM⟩ (by show r0.length-(i+1)<r0.length-i;omega) xB (xN)
 have ql:decide ((i:Int)<(r0.length:Nat))=false:=decide_eq_false (by omega)
 repeat' (first|(refine zAn ?_;refine zAc (zAe rfl rfl ql) ?_)|refine xst ?_|(refine xsa ?_;intro _)|(refine xsb ?_ ?_ <;>intro _<;>try (exfalso;omega))|refine xsc ?_|(refine zAa (id:=7) zBt (by kernel_rfl) (by kernel_rfl) ?_)|(refine zAa (id:=9) zBs (by kernel_rfl) (by kernel_rfl) ?_)|(refine zAa (id:=35) zBt (by kernel_rfl) (by kernel_rfl) ?_)|(refine zAa (id:=37) zBs (by kernel_rfl) (by kernel_rfl) ?_)|refine zAk ?_ ?_|refine zAj rfl rfl rfl rfl rfl ?_ ?_|refine zAg ?_ ?_|exact Rech.nil|fail)
 refine zBk (fun x:{x:Nat × Rows × Option Addr × Nat × Nat//x.1≤80∧x.2.2.2.1≤r0.length+x.1∧x.2.1.length=x.2.2.2.1}=>[(9,.pointer (some ⟨g9,0,none⟩)),(12,.pointer (some ⟨s,0,none⟩)),(13,.slice qa r0.length qc),(15,.slice xb r0.length cb2),(16,rngV (z1,z2,z3)),(0,.slice a first.length c),(1,.slice b next.length d),(2,.int .i64 stop),(18,.slice x.1.2.2.1 x.1.2.2.2.1 x.1.2.2.2.2),(19,.int .i64 (x.1.1:Nat))])
  (fun x=>[A,B,zAf g9 (opC mkS) 43,stP s xd q 64 (v:Nat) (some ⟨g,0,none⟩) D.life false,DiskP xd D,tbP q ta tb,arP N,jouU g xd 64 v used D.life,ropP (qa,qc) r0,ropP (xb,cb2) r0,zAf z1 [.pointer ta] 195,zAf z2 [strV []] 9,zAf z3 [strV ffB] 9,lsP rC 51 2 (.slice x.1.2.2.1 x.1.2.2.2.1 x.1.2.2.2.2) x.1.2.1]++R) (fun x=>80-x.1.1) ⟨(0,M,xa,r0.length,ca),Nat.zero_le _,by dsimp only;omega,hM⟩ xB (xN) (fun ⟨(j,G,ga,gm,gc),hj,hG,hGl⟩=>?_)
 dsimp only at hj hG hGl ⊢
 by_cases hlt2:j<80
 ·have ql2:decide ((j:Int)<80)=true:=decide_eq_true (by omega)
  have m1:(G.length+1)*32≤140737488355328:=by omega
  have m2:G.length+1≤9223372036854775807:=by omega
  have m3:(G++[grR]).length=G.length+1:=by simp
  repeat' (first|(refine zBv ?_;refine KJ_appOne (l:=G) (a:=grR) rC_ok rfl rfl rfl xS xS m1 m2 rfl (fun g' c'=>?_))|(refine zBq ?_;refine zBz rfl xF (by rfl) (by omega) rfl (fun gb=>?_);show KJ W _ _ _ (zAf gb (rC grR) 51::_))|(refine zCd ?_;refine zAc (zCe xV xW) ?_)|(refine zAz ?_;refine zAc (zAh (r:=((j+1:Nat):Int)) rfl rfl (by omega) (by omega)) ?_)|(refine zAn ?_;refine zAc (zAe rfl rfl ql2) ?_)|refine xst ?_|(refine xsa ?_;intro _)|(refine xsb ?_ ?_ <;>intro _<;>try (exfalso;omega))|refine xsc ?_|(refine zAa (id:=7) zBt (by kernel_rfl) (by kernel_rfl) ?_)|(refine zAa (id:=9) zBs (by kernel_rfl) (by kernel_rfl) ?_)|(refine zAa (id:=35) zBt (by kernel_rfl) (by kernel_rfl) ?_)|(refine zAa (id:=37) zBs (by kernel_rfl) (by kernel_rfl) ?_)|refine zAk ?_ ?_|refine zAj rfl rfl rfl rfl rfl ?_ ?_|refine zAg ?_ ?_|exact Rech.nil|fail)
  all_goals refine zAs ⟨(j+1,G++[grR],_,(G++[grR]).length,_),hlt2,by dsimp only;omega,rfl⟩ (by show 80-(j+1)<80-j;omega) xB (xN)
 have ql2:decide ((j:Int)<80)=false:=decide_eq_false (by omega)
 have b1:(([]:List BOp).length+next.length)*40≤140737488355328:=by simp;omega
 have b2:([]:List BOp).length+next.length≤9223372036854775807:=by simp;omega
 have b3:(([]++next:List BOp).length+1)*40≤140737488355328:=by simp;omega
 have b4:([]++next:List BOp).length+1≤9223372036854775807:=by simp;omega
 refine KJ.lvOpen hB xS (fun b0 o0 hbb=>?_)
 repeat' (first|(refine zBw (id:=35) ?_;refine hold ?_)|(refine zAn ?_;refine zAc (zAe rfl rfl ql2) ?_)|refine xst ?_|(refine xsa ?_;intro _)|(refine xsb ?_ ?_ <;>intro _<;>try (exfalso;omega))|refine xsc ?_|(refine zAa (id:=7) zBt (by kernel_rfl) (by kernel_rfl) ?_)|(refine zAa (id:=9) zBs (by kernel_rfl) (by kernel_rfl) ?_)|(refine zAa (id:=35) zBt (by kernel_rfl) (by kernel_rfl) ?_)|(refine zAa (id:=37) zBs (by kernel_rfl) (by kernel_rfl) ?_)|refine zAk ?_ ?_|refine zAj rfl rfl rfl rfl rfl ?_ ?_|refine zAg ?_ ?_|exact Rech.nil|fail)
 refine Hold.mk ?_
 apply KJ_rest (fun Kc=>∀ (a3 c3:Nat),KJ W 207 Kc [(1,.slice b next.length d),(2,.int .i64 stop),(9,.pointer (some ⟨g9,0,none⟩)),(12,.pointer (some ⟨s,0,none⟩)),(13,.slice qa r0.length qc),(15,.slice xb r0.length cb2),(16,rngV (z1,z2,z3)),(20,.slice (some ⟨a3,0,none⟩) ([]++next++[mkS]:List BOp).length c3)]
  ([A,B,zAf g9 (opC mkS) 43,stP s xd q 64 (v:Nat) (some ⟨g,0,none⟩) D.life false,DiskP xd D,tbP q ta tb,arP N,jouU g xd 64 v used D.life,ropP (qa,qc) r0,ropP (xb,cb2) r0,zAf z1 [.pointer ta] 195,zAf z2 [strV []] 9,zAf z3 [strV ffB] 9,lsP opC 43 3 (.slice (some ⟨a3,0,none⟩) ([]++next++[mkS]:List BOp).length c3) ([]++next++[mkS])]++R))
 ·intro rest
  repeat' (first|(refine zBw (id:=36) ?_;exact KJ.weak (rest a3 c3) xB (xN))|(refine zBv ?_;first|(refine KJ_appOne (l:=([]++next:List BOp)) (a:=mkS) zCg rfl rfl rfl xS xS b3 b4 rfl (fun a3 c3=>?_))|(refine KJ_appAll (l:=([]:List BOp)) (l2:=next) zCg rfl rfl rfl rfl xS (Src.lv hB hbb xS) b1 b2 rfl (fun a1 c1=>?_)))|(refine is_mkSlice ?_;refine KJ_make0 (m:=next.length+1) (bytes:=40) rfl rfl rfl (by omega) (by omega) rfl (fun gm cm=>?_))|(refine zBq ?_;refine zBz rfl xF (by rfl) (by omega) rfl (fun gb=>?_);show KJ W _ _ _ (zAf gb (opC mkS) 43::_))|(refine zAz ?_;refine zAc (zAh (r:=((next.length+1:Nat):Int)) rfl rfl (by omega) (by omega)) ?_)|refine xst ?_|(refine xsa ?_;intro _)|(refine xsb ?_ ?_ <;>intro _<;>try (exfalso;omega))|refine xsc ?_|(refine zAa (id:=7) zBt (by kernel_rfl) (by kernel_rfl) ?_)|(refine zAa (id:=9) zBs (by kernel_rfl) (by kernel_rfl) ?_)|(refine zAa (id:=35) zBt (by kernel_rfl) (by kernel_rfl) ?_)|(refine zAa (id:=37) zBs (by kernel_rfl) (by kernel_rfl) ?_)|refine zAk ?_ ?_|refine zAj rfl rfl rfl rfl rfl ?_ ?_|refine zAg ?_ ?_|exact Rech.nil|fail)
 intro a3 c3
 obtain ⟨V,hV⟩:∃ V,V=([]++next++[mkS]:List BOp):=⟨_,rfl⟩
 rw [← hV]
 rw [List.nil_append] at hV
 have hVl:V.length=next.length+1:=by rw [hV];simp
 have hVt:V.take next.length=next:=by rw [hV,List.take_left]
 have hVx:V[next.length]? = some mkS:=by rw [hV,List.getElem?_append_right (Nat.le_refl _),Nat.sub_self];rfl
 clear hV b1 b2 b3 b4
 refine KJ.slOk (l:=V) (a:=some ⟨a3,0,none⟩) (c:=c3) (m:=V.length) xS (fun hsv=>?_)
 have hVv:Lv W opC 3 (lsP opC 43 3 (.slice (some ⟨a3,0,none⟩) V.length c3) V) (some ⟨a3,0,none⟩) next:=by
  have:=Lv.take (W:=W) (e:=43) (a:=some ⟨a3,0,none⟩) (c:=c3) (i:=next.length) zCg (show V.length=V.length from rfl)
  rwa [hVt] at this
 have hcv:=hsv.2
 have cs2:=sops13_ct (W:=W) (lsP opC 43 3 (.slice (some ⟨a3,0,none⟩) V.length c3) V) B (some ⟨a3,0,none⟩) b c3 d next hVv hB (by omega)
 have hof3:0+Int.toNat ((next.length:Nat):Int)*3=next.length*3:=by simp
 obtain ⟨ce,hce⟩:∃ e,e=commE 64 r0 next:=⟨_,rfl⟩
 obtain ⟨r2,hr2⟩:∃ e,e=commR 64 r0 next:=⟨_,rfl⟩
 obtain ⟨bb2,hbb2⟩:∃ e,e=commB 64 r0 next:=⟨_,rfl⟩
 have hsx:=hx.snap hris0 (by omega)
 have cx:=scommitX (W:=W) (F:=F) (s:=s) (n:=64) (m:=2) (r:=r0) hE16 hE8 hN (by omega) (by omega) (by omega) ⟨xd,q,g,v,used,D,N,ta,tb⟩ hI (lsP opC 43 3 (.slice (some ⟨a3,0,none⟩) V.length c3) V) (some ⟨a3,0,none⟩) c3 next hVv (by omega) (by omega) hx.enc (by rw [apply_normD hris0];omega)
 rw [← hce,← hr2,← hbb2] at cx
 have hr2r:RisR r2:=by rw [hr2];exact commR_ris hris0 next
 have hr2m:(zAr r2).length≤234*layA 64:=by rw [hr2];exact commR_room hsn
 obtain ⟨hrl2,hrs2⟩:=rows_room hr2m (by omega)
 repeat' (first|(refine zBw (id:=39) ?_;refine hold ?_)|(refine zAd ?_;first|(refine zAb xE cs2 xP rfl (fun _=>?_))|(refine zAb xE cx xP rfl (fun y=>?_)))|(refine zAi ?_;refine zAc (Ev_loadLs zCg rfl xS rfl hof3 hVx) ?_)|(refine ek_slice ?_;refine zAc (Ev_sliceToB rfl rfl hsv.1 (by omega)) ?_)|(refine zBc ?_;refine zAc (Ev_neqSt rfl rfl (op14_eqF mkS mkS Tryz.underlying43) hqm) ?_)|refine xst ?_|(refine xsa ?_;intro _)|(refine xsb ?_ ?_ <;>intro _<;>try (exfalso;omega))|refine xsc ?_|(refine zAa (id:=7) zBt (by kernel_rfl) (by kernel_rfl) ?_)|(refine zAa (id:=9) zBs (by kernel_rfl) (by kernel_rfl) ?_)|(refine zAa (id:=35) zBt (by kernel_rfl) (by kernel_rfl) ?_)|(refine zAa (id:=37) zBs (by kernel_rfl) (by kernel_rfl) ?_)|refine zAk ?_ ?_|refine zAj rfl rfl rfl rfl rfl ?_ ?_|refine zAg ?_ ?_|exact Rech.nil|fail)
 refine Hold.mk ?_
 obtain ⟨⟨yd,yq,yg,yv,yused,yD,yN,ya3,yb⟩,hJ,hgo⟩:=y
 have hsub:∀ z ∈ N,z ∈ yN:=hgo.sub
 have hT2:TbOk yN ya3 r2:=hJ.tab
 have hR2:=hR.mono hsub
 have cr2:=srows_ct (W:=W) (s:=s) (d:=yd) (q:=yq) (n:=64) (b:=yb) (yv:Nat) (some ⟨yg,0,none⟩) yD.life false hT2 (by omega)
 have cwk:=fun st=>walked13_ct (W:=W) (N:=yN) (a:=ta) (ropP (qa,qc) r0) qa qc r0 (Lv.own (e:=51) (c:=qc) rC_ok rfl) hris0 (by omega) z1 z2 z3 tr hR2 hfr st
 have cse2:=fun (x y:Option Addr × Nat)=>srows13_ct (W:=W) (ropP x r2) (ropP y r2) x.1 y.1 x.2 y.2 r2 (Lv.own (e:=51) (c:=x.2) rC_ok rfl) (Lv.own (e:=51) (c:=y.2) rC_ok rfl) (by omega)
 dsimp only
 by_cases h0:ce=0
 ·subst h0
  have hr2e:r2=zAw r0 next:=by rw [hr2];exact commR_yes hris0 hce.symm
  have cbh:=behind13_ct (W:=W) (ropP (qa,qc) r0) B qa b qc d r0 next (Lv.own (e:=51) (c:=qc) rC_ok rfl) hB hris0 (by omega) (by omega)
  rw [← hr2e] at cbh
  clear hr2 hr2e
  repeat' (first|(refine zAd ?_;refine zAb xE cbh xP rfl (fun x=>?_);obtain ⟨na,nc⟩:=x)|refine xst ?_|(refine xsa ?_;intro _)|(refine xsb ?_ ?_ <;>intro _<;>try (exfalso;omega))|refine xsc ?_|(refine zAa (id:=7) zBt (by kernel_rfl) (by kernel_rfl) ?_)|(refine zAa (id:=9) zBs (by kernel_rfl) (by kernel_rfl) ?_)|(refine zAa (id:=35) zBt (by kernel_rfl) (by kernel_rfl) ?_)|(refine zAa (id:=37) zBs (by kernel_rfl) (by kernel_rfl) ?_)|refine zAk ?_ ?_|refine zAj rfl rfl rfl rfl rfl ?_ ?_|refine zAg ?_ ?_|exact Rech.nil|fail)
  refine zBk (fun x:{x:Nat × List BOp//x.1≤V.length∧x.2.length=V.length}=>[(12,.pointer (some ⟨s,0,none⟩)),(13,.slice qa r0.length qc),(15,.slice xb r0.length cb2),(16,rngV (z1,z2,z3)),(2,.int .i64 stop),(20,.slice (some ⟨a3,0,none⟩) V.length c3),(21,.slice na r2.length nc),(171,.slice (some ⟨a3,0,none⟩) V.length c3),(172,.int .i64 (V.length:Nat)),(173,.int .i64 (x.1.1:Nat))])
   (fun x=>[A,B,stP s yd yq 64 (yv:Nat) (some ⟨yg,0,none⟩) yD.life false,DiskP yd yD,tbP yq ya3 yb,arP yN,jouU yg yd 64 yv yused yD.life,ropP (qa,qc) r0,ropP (xb,cb2) r0,ropP (na,nc) r2,zAf z1 [.pointer ta] 195,zAf z2 [strV []] 9,zAf z3 [strV ffB] 9,lsP opC 43 3 (.slice (some ⟨a3,0,none⟩) V.length c3) x.1.2]++R) (fun x=>V.length-x.1.1) ⟨(0,V),Nat.zero_le _,rfl⟩ xB (xN) (fun ⟨(i,M2),hi2,hM2⟩=>?_)
  dsimp only at hi2 hM2 ⊢
  by_cases hlt3:i<V.length
  ·have ql3:decide ((i:Int)<(V.length:Nat))=true:=decide_eq_true (by omega)
   have hof:0+Int.toNat ((i:Nat):Int)*3=i*3:=by simp
   repeat' (first|(refine is_store ?_;refine KJ_storeLs (l:=M2) (a:=spS) zCg rfl rfl xS hM2.symm hof (by omega) ?_)|(refine zCd ?_;refine zAc (zCe xV xW) ?_)|(refine zAz ?_;refine zAc (zAh (r:=((i+1:Nat):Int)) rfl rfl (by omega) (by omega)) ?_)|(refine zAn ?_;refine zAc (zAe rfl rfl ql3) ?_)|refine xst ?_|(refine xsa ?_;intro _)|(refine xsb ?_ ?_ <;>intro _<;>try (exfalso;omega))|refine xsc ?_|(refine zAa (id:=7) zBt (by kernel_rfl) (by kernel_rfl) ?_)|(refine zAa (id:=9) zBs (by kernel_rfl) (by kernel_rfl) ?_)|(refine zAa (id:=35) zBt (by kernel_rfl) (by kernel_rfl) ?_)|(refine zAa (id:=37) zBs (by kernel_rfl) (by kernel_rfl) ?_)|refine zAk ?_ ?_|refine zAj rfl rfl rfl rfl rfl ?_ ?_|refine zAg ?_ ?_|exact Rech.nil|fail)
   all_goals refine zAs ⟨(i+1,M2.set i spS),hlt3,by rw [List.length_set];exact hM2⟩ (by show V.length-(i+1)<V.length-i;omega) xB (xN)
  have ql3:decide ((i:Int)<(V.length:Nat))=false:=decide_eq_false (by omega)
  have ce3:=cse (xb,cb2) (qa,qc)
  repeat' (first|(refine zAd ?_;first|(refine zAb xE (cwk (-1)) xP rfl (fun _=>?_))|(refine zAb xE (cwk stop) xP rfl (fun _=>?_))|(refine zAb (d:=205) xE (cse2 (wa,wc) (na,nc)) xP rfl (fun _=>?_))|(refine zAb (d:=189) xE ce3 xP rfl (fun _=>?_))|(refine zAb (d:=184) xE (cse2 (ua,uc) (na,nc)) xP rfl (fun _=>?_))|(refine zAb (d:=203) xE cr2 xP rfl (fun x=>?_);obtain ⟨wa,wc⟩:=x)|(refine zAb (d:=182) xE cr2 xP rfl (fun x=>?_);obtain ⟨ua,uc⟩:=x))|(refine zAn ?_;refine zAc (zAe rfl rfl ql3) ?_)|refine xst ?_|(refine xsa ?_;intro _)|(refine xsb ?_ ?_ <;>intro _<;>try (exfalso;omega))|refine xsc ?_|(refine zAa (id:=7) zBt (by kernel_rfl) (by kernel_rfl) ?_)|(refine zAa (id:=9) zBs (by kernel_rfl) (by kernel_rfl) ?_)|(refine zAa (id:=35) zBt (by kernel_rfl) (by kernel_rfl) ?_)|(refine zAa (id:=37) zBs (by kernel_rfl) (by kernel_rfl) ?_)|refine zAk ?_ ?_|refine zAj rfl rfl rfl rfl rfl ?_ ?_|refine zAg ?_ ?_|exact Rech.nil|fail)
  all_goals (exact xdn ())
 ·have hr2e:r2=r0:=by rw [hr2];exact commR_no (by rw [← hce];exact h0)
  have hne:=errNe (F:=F) h0
  subst hr2e
  clear hr2
  repeat' (first|(refine zBn ?_;refine zAc (Ev_eqlNil rfl hne) ?_)|refine xst ?_|(refine xsa ?_;intro _)|(refine xsb ?_ ?_ <;>intro _<;>try (exfalso;omega))|refine xsc ?_|(refine zAa (id:=7) zBt (by kernel_rfl) (by kernel_rfl) ?_)|(refine zAa (id:=9) zBs (by kernel_rfl) (by kernel_rfl) ?_)|(refine zAa (id:=35) zBt (by kernel_rfl) (by kernel_rfl) ?_)|(refine zAa (id:=37) zBs (by kernel_rfl) (by kernel_rfl) ?_)|refine zAk ?_ ?_|refine zAj rfl rfl rfl rfl rfl ?_ ?_|refine zAg ?_ ?_|exact Rech.nil|fail)
  refine zBk (fun x:{x:Nat × List BOp//x.1≤V.length∧x.2.length=V.length}=>[(12,.pointer (some ⟨s,0,none⟩)),(13,.slice qa r2.length qc),(15,.slice xb r2.length cb2),(16,rngV (z1,z2,z3)),(2,.int .i64 stop),(20,.slice (some ⟨a3,0,none⟩) V.length c3),(21,.slice qa r2.length qc),(171,.slice (some ⟨a3,0,none⟩) V.length c3),(172,.int .i64 (V.length:Nat)),(173,.int .i64 (x.1.1:Nat))])
   (fun x=>[A,B,stP s yd yq 64 (yv:Nat) (some ⟨yg,0,none⟩) yD.life false,DiskP yd yD,tbP yq ya3 yb,arP yN,jouU yg yd 64 yv yused yD.life,ropP (qa,qc) r2,ropP (xb,cb2) r2,zAf z1 [.pointer ta] 195,zAf z2 [strV []] 9,zAf z3 [strV ffB] 9,lsP opC 43 3 (.slice (some ⟨a3,0,none⟩) V.length c3) x.1.2]++R) (fun x=>V.length-x.1.1) ⟨(0,V),Nat.zero_le _,rfl⟩ xB (xN) (fun ⟨(i,M2),hi2,hM2⟩=>?_)
  dsimp only at hi2 hM2 ⊢
  by_cases hlt3:i<V.length
  ·have ql3:decide ((i:Int)<(V.length:Nat))=true:=decide_eq_true (by omega)
   have hof:0+Int.toNat ((i:Nat):Int)*3=i*3:=by simp
   repeat' (first|(refine is_store ?_;refine KJ_storeLs (l:=M2) (a:=spS) zCg rfl rfl xS hM2.symm hof (by omega) ?_)|(refine zCd ?_;refine zAc (zCe xV xW) ?_)|(refine zAz ?_;refine zAc (zAh (r:=((i+1:Nat):Int)) rfl rfl (by omega) (by omega)) ?_)|(refine zAn ?_;refine zAc (zAe rfl rfl ql3) ?_)|refine xst ?_|(refine xsa ?_;intro _)|(refine xsb ?_ ?_ <;>intro _<;>try (exfalso;omega))|refine xsc ?_|(refine zAa (id:=7) zBt (by kernel_rfl) (by kernel_rfl) ?_)|(refine zAa (id:=9) zBs (by kernel_rfl) (by kernel_rfl) ?_)|(refine zAa (id:=35) zBt (by kernel_rfl) (by kernel_rfl) ?_)|(refine zAa (id:=37) zBs (by kernel_rfl) (by kernel_rfl) ?_)|refine zAk ?_ ?_|refine zAj rfl rfl rfl rfl rfl ?_ ?_|refine zAg ?_ ?_|exact Rech.nil|fail)
   all_goals refine zAs ⟨(i+1,M2.set i spS),hlt3,by rw [List.length_set];exact hM2⟩ (by show V.length-(i+1)<V.length-i;omega) xB (xN)
  have ql3:decide ((i:Int)<(V.length:Nat))=false:=decide_eq_false (by omega)
  have ce3:=cse (xb,cb2) (qa,qc)
  repeat' (first|(refine zAd ?_;first|(refine zAb xE (cwk (-1)) xP rfl (fun _=>?_))|(refine zAb xE (cwk stop) xP rfl (fun _=>?_))|(refine zAb (d:=205) xE (cse2 (wa,wc) (qa,qc)) xP rfl (fun _=>?_))|(refine zAb (d:=189) xE ce3 xP rfl (fun _=>?_))|(refine zAb (d:=184) xE (cse2 (ua,uc) (qa,qc)) xP rfl (fun _=>?_))|(refine zAb (d:=203) xE cr2 xP rfl (fun x=>?_);obtain ⟨wa,wc⟩:=x)|(refine zAb (d:=182) xE cr2 xP rfl (fun x=>?_);obtain ⟨ua,uc⟩:=x))|(refine zAn ?_;refine zAc (zAe rfl rfl ql3) ?_)|refine xst ?_|(refine xsa ?_;intro _)|(refine xsb ?_ ?_ <;>intro _<;>try (exfalso;omega))|refine xsc ?_|(refine zAa (id:=7) zBt (by kernel_rfl) (by kernel_rfl) ?_)|(refine zAa (id:=9) zBs (by kernel_rfl) (by kernel_rfl) ?_)|(refine zAa (id:=35) zBt (by kernel_rfl) (by kernel_rfl) ?_)|(refine zAa (id:=37) zBs (by kernel_rfl) (by kernel_rfl) ?_)|refine zAk ?_ ?_|refine zAj rfl rfl rfl rfl rfl ?_ ?_|refine zAg ?_ ?_|exact Rech.nil|fail)
  all_goals (exact xdn ())
theorem memory13_law (hE:ErrsAt W F) (hN:NibAt W) (hg:gB≤W.heap.size) (a b:Option Addr) (c d:Nat) (first next:List BOp) (stop:Int) (hA:Lv W opC 3 noP a first) (hB:Lv W opC 3 noP b next) (hf:OpsFit first) (hx:OpsFit next) :
 Ct Tryz.prog W 8 [.slice a first.length c,.slice b next.length d,.int .i64 stop] [] (fun _:Unit=>.bool true) (fun _=>[]):=
 Ct.noP14 (memory13_ct hE hN hg noP noP a b c d first next stop hA hB hf hx)
end
end Go.Proofs.YtahgdagcnkpnbaaGreatDoor
