/-
  ChTP, ChT1, ChT2.
-/
import Derived.Test.YtnbgcimalpdfoaaGreatDoorUFX
import Derived.Test.YtnbgcimalpdfoaaGreatDoorUFP
import Derived.Test.YtnbgcimalpdfoaaGreatDoorUFV
set_option maxHeartbeats 64000000
namespace Go.Proofs.YtnbgcimalpdfoaaGreatDoor
open Go Go.RowKit
abbrev plUFZ0:Pl:=(.op 0 (.op 1 (.op 2 (.op 3 (.op 4 (.op 5 (.op 6 (.op 7 (.op 8 (.op 9 (.op 10 (.op 11 (.op 12 (.op 13 (.op 14 (.op 15 (.op 16 (.op 17 (.op 18 (.op 19 (.op 20 (.op 21 .nil))))))))))))))))))))))
abbrev plUFZ1:Pl:=(.op 0 (.op 1 (.op 2 (.op 3 (.op 4 (.alt (.ef 5 [] (.op 6 (.op 7 (.op 8 (.ef 9 [8,7,6] (.ef 10 [8] (.op 11 .nil))))))) (.ef 9 [4,3,2,1,0] (.ef 5 [] (.op 6 (.op 7 (.op 8 (.ef 10 [8] (.op 11 .nil)))))))))))))
abbrev plUFZ2:Pl:=(.op 0 (.op 1 (.op 2 (.op 3 (.op 4 (.op 5 (.op 6 (.op 7 (.op 8 (.op 9 (.op 10 (.op 11 .nil))))))))))))
theorem less_cons {a b:UInt8} {x y:List UInt8}:Op.bytesLess (a::x) (b::y)=true↔a<b∨a=b∧Op.bytesLess x y=true:=by
 simp only [Op.bytesLess,Bool.or_eq_true,decide_eq_true_eq,Bool.and_eq_true,beq_iff_eq]
theorem less_same {a:UInt8} {x y:List UInt8} (h:Op.bytesLess x y=true):Op.bytesLess (a::x) (a::y)=true:=less_cons.2 (.inr ⟨rfl,h⟩)
theorem zero_lt {b:UInt8} (h:b≠0):(0:UInt8)<b:=by
 rw [UInt8.lt_iff_toNat_lt]
 have e:(0:UInt8).toNat=0:=rfl
 have:b.toNat≠0:=fun q=>h (UInt8.toNat_inj.1 (q.trans e.symm))
 omega
theorem esc_less:∀ (x y s t:List UInt8),Op.bytesLess x y=true→Op.bytesLess (esc x++0::1::s) (esc y++0::1::t)=true
 |_,[],_,_,h=>by rw [less_nil_false] at h;cases h
 |[],b::y,s,t,_=>by
  rw [esc_cons,List.append_assoc]
  by_cases hb:b=0
  ·have e:escB b=[0,255]:=if_pos hb
   rw [e]
   exact less_cons.2 (.inr ⟨rfl,less_cons.2 (.inl (by decide))⟩)
  ·have e:escB b=[b]:=if_neg hb
   rw [e]
   exact less_cons.2 (.inl (zero_lt hb))
 |a::x,b::y,s,t,h=>by
  rw [esc_cons,esc_cons,List.append_assoc,List.append_assoc]
  rcases less_cons.1 h with h1|⟨rfl,h1⟩
  ·have hb:b≠0:=fun e=>by
    rw [e,UInt8.lt_iff_toNat_lt] at h1
    exact absurd h1 (by have:(0:UInt8).toNat=0:=rfl;omega)
   have eb:escB b=[b]:=if_neg hb
   rw [eb]
   by_cases ha:a=0
   ·have ea:escB a=[0,255]:=if_pos ha
    rw [ea]
    exact less_cons.2 (.inl (zero_lt hb))
   ·have ea:escB a=[a]:=if_neg ha
    rw [ea]
    exact less_cons.2 (.inl h1)
  ·have ih:=esc_less x y s t h1
   by_cases ha:a=0
   ·have ea:escB a=[0,255]:=if_pos ha
    rw [ea]
    exact less_same (less_same ih)
   ·have ea:escB a=[a]:=if_neg ha
    rw [ea]
    exact less_same ih
theorem aKey_cons (id:List UInt8):aKey id=2::97::0::1::2::(esc id++0::1::[]):=rfl
theorem aKey_less {x y:List UInt8} (h:Op.bytesLess x y=true):Op.bytesLess (aKey x) (aKey y)=true:=by
 rw [aKey_cons,aKey_cons]
 exact less_same (less_same (less_same (less_same (less_same (esc_less x y [] [] h)))))
theorem aKey_less_iff {x y:List UInt8} (h:Op.bytesLess (aKey x) (aKey y)=true):Op.bytesLess x y=true:=by
 by_cases e:x=y
 ·rw [e,tl_irr] at h;cases h
 ·rcases tl_tot x y e with q|q
  ·exact q
  ·have:=tl_asym (aKey_less q)
   rw [h] at this;cases this
theorem firstP_num {k t:List UInt8} {p:KPt} (h:firstP k=some (p,t)) (hn:p.num=false):p=kT p.s:=by
 match k,h with
 |m::l,h=>
  by_cases h1:m=1
  ·subst h1
   rw [firstP_one] at h
   split at h
   ·cases h
   ·cases h;cases hn
  ·by_cases h2:m=2
   ·subst h2
    rw [firstP_two] at h
    obtain ⟨x,hx,e⟩:=map_some_iff h
    simp only [Prod.mk.injEq] at e
    rw [← e.1]
   ·rw [firstP_else h1 h2] at h;cases h
theorem split_a {k:List UInt8} {q1:KPt} (h:zCd k=some [kT [97],q1]) (hn:q1.num=false):k=aKey q1.s:=by
 obtain ⟨u,hu,h2⟩:=firstP_of_split h
 obtain ⟨v,hv,h3⟩:=firstP_of_split h2
 have e:=firstP_num hv hn
 rw [e] at h
 exact splitP_two h
theorem accD_some {p:List UInt8 × List UInt8} {ac:Acct} (h:accD p=some ac):p.1=aKey ac.id∧decA ac.id p.2=some ac:=by
 cases hs:zCd p.1 with
 |none=>rw [accD_none hs] at h;cases h
 |some L=>
  by_cases hl:L.length=2
  ·match L,hl,hs with
   |[q0,q1],_,hs=>
    rw [accD_two hs] at h
    by_cases hq:q0=kT [97]∧q1.num=false
    ·rw [if_pos hq] at h
     rw [hq.1] at hs
     have hid:=(dec_some h).1
     rw [hid]
     exact ⟨split_a hs hq.2,h⟩
    ·rw [if_neg hq] at h;cases h
  ·rw [accD_other hs hl] at h;cases h
theorem ris_lk {r:Rows} (hr:RisR r) {p:List UInt8 × List UInt8} (h:p ∈ r):lk r p.1=some p.2:=lk_of hr.nodup h
theorem tells_mem {r:Rows} (hr:RisR r) {ac:Acct} (h:ac ∈ acctsD r):getO ac.id (lk r (aKey ac.id))=some ac:=by
 obtain ⟨p,hp,e⟩:=List.mem_filterMap.1 h
 obtain ⟨e1,e2⟩:=accD_some e
 have:=ris_lk hr hp
 rw [e1] at this
 rw [this]
 exact e2
theorem tells_ris {r:Rows} (hr:RisR r):(acctsD r).Pairwise fun a b=>Op.bytesLess a.id b.id=true:=by
 refine List.pairwise_filterMap.2 (List.Pairwise.imp ?_ hr)
 intro p q h a ha b hb
 have h:Op.bytesLess p.1 q.1=true:=h
 rw [(accD_some ha).1,(accD_some hb).1] at h
 exact aKey_less_iff h
theorem tells_next {r:Rows} (hr:RisR r) {i:Nat} {a b:Acct} (h1:(acctsD r)[i]? = some a) (h2:(acctsD r)[i+1]? = some b):Op.bytesLess a.id b.id=true:=by
 obtain ⟨k1,e1⟩:=List.getElem?_eq_some_iff.1 h1
 obtain ⟨k2,e2⟩:=List.getElem?_eq_some_iff.1 h2
 have:=List.pairwise_iff_getElem.1 (tells_ris hr) i (i+1) k1 k2 (by omega)
 rw [e1,e2] at this
 exact this
theorem acctsD_at {r:Rows} {i:Nat} {p:List UInt8 × List UInt8} {ac:Acct} (h:r[i]? = some p) (hp:accD p=some ac):(acctsD r)[(acctsD (r.take i)).length]? = some ac:=by
 have e:r=r.take (i+1)++r.drop (i+1):=(List.take_append_drop _ _).symm
 have e2:acctsD r=acctsD (r.take (i+1))++acctsD (r.drop (i+1)):=by
  conv=>lhs;rw [e]
  unfold acctsD
  rw [List.filterMap_append]
 have e3:acctsD (r.take (i+1))=acctsD (r.take i)++[ac]:=by rw [acctsD_next h,hp];rfl
 rw [e2,e3,List.append_assoc,List.getElem?_append_right (Nat.le_refl _),Nat.sub_self]
 rfl
theorem tells_len {r:Rows} {n:Nat} (hk:∀ p ∈ r,p.1.length≤n) {ac:Acct} (h:ac ∈ acctsD r):ac.id.length≤n:=by
 obtain ⟨p,hp,e⟩:=List.mem_filterMap.1 h
 have h1:=hk p hp
 have h2:=esc_ge ac.id
 rw [(accD_some e).1,aKey_cons] at h1
 simp only [List.length_cons,List.length_append] at h1
 omega
def tellR (r:Rows) (o:COp):Rows:=if o.kind=7 then r else stepR r o
theorem ChI.tell {n:Nat} {r:Rows} (h:ChI n r) {o:COp} (h1:o.ac.id.length≤900000) (h2:o.row.length≤9223372036854775000):ChI (n+4) (tellR r o):=by
 unfold tellR
 split
 ·exact h.up (by omega)
 ·exact h.step h1 h2
end Go.Proofs.YtnbgcimalpdfoaaGreatDoor
namespace Go.Proofs.YtnbgcimalpdfoaaGreatDoor
open Go Go.RowKit
abbrev txO (t s:Nat) (y:TxH) (l:Nat):List SP:=[zAk t (txC s y l false) 128,tbP y.q y.a y.b,arP y.N]
section
variable {W:World} {F:Nat→Addr} {t s l:Nat} {y:TxH} {r:Rows}
theorem txget_open (hT:TbOk y.N y.a r) (key:List UInt8):Ct Tryz.prog W 24 [.pointer (some ⟨t,0,none⟩),strV key] [allP 84 (txO t s y l)] (fun _:Unit=>.tuple #[strV ((lk r key).getD []),.bool (lk r key).isSome]) (fun _=>[allP 84 (txO t s y l)]):=by
 refine Ct.enter Tryz.func24 rfl Tryz.ntmps24 (by simp) (fun R=>?_)
 refine KJ.allOpen (L:=txO t s y l) xS ?_
 have cg:=tget_ct (W:=W) (p:=y.q) (b:=y.b) hT key
 repeat' (first|(refine zAd ?_;refine zAc xE cg xP rfl (fun _=>?_))|refine xst ?_|(refine xsa ?_;intro _)|(refine xsb ?_ ?_ <;>intro _<;>try (exfalso;omega))|refine xsc ?_|fail)
 all_goals refine KJ.allShut (L:=txO t s y l) 84 xP ?_
 all_goals (exact xdn ())
theorem chget_open (hE:ErrsOn L37 W F) (hT:TbOk y.N y.a r) {id:List UInt8} (hi:id.length≤2000000) (ho:∀ v,lk r (aKey id)=some v→v.length≤9223372036854775000):Ct Tryz.prog W 44 [.pointer (some ⟨t,0,none⟩),strV id] [allP 84 (txO t s y l)] (fun _:Unit=>getV F id (lk r (aKey id))) (fun _=>[allP 84 (txO t s y l)]):=
 chget_ct (W:=W) (F:=F) (T:=allP 84 (txO t s y l)) (t:=t) (id:=id) (o:=lk r (aKey id)) hi ho hE (txget_open hT (aKey id))
theorem KJ.txUp {n:Nat} {k:KK} {E:Env} {H R:List SP} {m m':Nat} {ended:Bool} (hm:m≤m') (q:Sel (TxQ t r ended m) H R) (h:KJ W n k E (TxQ t r ended m'::R)):KJ W n k E H:=⟨fun a w p s=>h.go a w p ((s.perm (q.perm.append_right _)).mono fun g hg=>TxQ.up hm g hg)⟩
end
end Go.Proofs.YtnbgcimalpdfoaaGreatDoor
namespace Go.Proofs.YtnbgcimalpdfoaaGreatDoor
open Go Go.RowKit
section
variable {W:World} {F:Nat→Addr}
theorem getV_some (F:Nat→Addr) {id:List UInt8} {o:Option (List UInt8)} {a:Acct} (h:getO id o=some a):getV F id o=.tuple #[acV a,.nilIface]:=by unfold getV;rw [h,getE_some h];rfl
theorem getV_none (F:Nat→Addr) {id:List UInt8} {o:Option (List UInt8)} (h:getO id o=none):getV F id o=.tuple #[acV ac0,errV F (getE id o)]:=by unfold getV;rw [h];rfl
set_option maxRecDepth 100000 in
theorem tells15_ct (hE:ErrsAt W F) (hN:NibAt W) (hg:gB≤W.heap.size) (A B:SP) (a b:Option Addr) (c d:Nat) (l:Rows) (S:List COp) (hA:Lv W rC 2 A a l) (hB:Lv W copC 9 B b S) (X:Args15 l S) :
 Ct Tryz.prog W 8 [.slice a l.length c,.slice b S.length d] [A,B] (fun _:Unit=>.bool true) (fun _=>[A,B]):=by
 obtain ⟨xs1,xs2⟩:=X.sums
 have x1:=X.ll
 have x2:=X.ls
 have cL:=lives15_ct hE hN hg
 have cF:=few15_ct A B a b c d l S hA hB (by omega) (by omega) xs1 xs2
 have cK:=keyed15_ct A a c l hA (by omega)
 have cb:=begin15_ct hE hN hg A a c l hA (by omega)
 cases hf:fewB l S with
 |false=>
  rw [hf] at cF
  refine Ct.enter Tryz.func8 rfl Tryz.ntmps8 (by simp) (fun R=>?_)
  repeat' (first|(refine zBd ?_;refine zAz rfl (fun g4=>?_))|(refine zAd ?_;first|(refine zAc xE cF xP rfl (fun _=>?_))|(refine zAc xE cL xP rfl (fun _=>?_)))|refine xst ?_|(refine xsa ?_;intro _)|(refine xsb ?_ ?_ <;>intro _<;>try (exfalso;omega))|refine xsc ?_|(refine zAb (id:=31) plUFZ0 (by kernel_rfl) (by kernel_rfl) ?_)|(refine zAb (id:=41) plUFZ1 (by kernel_rfl) (by kernel_rfl) ?_)|(refine zAb (id:=43) plUFZ2 (by kernel_rfl) (by kernel_rfl) ?_)|refine zAj ?_ ?_|refine zAi rfl rfl rfl rfl rfl ?_ ?_|refine zAf ?_ ?_|exact Rech.nil|fail)
  all_goals (refine is_ex ?_;exact zBq (by first|exact Or.inl rfl|exact Or.inr rfl) rfl (Rvs.cell (T:=4) rfl inferInstance xS rfl Rvs.nil) () (by rfl) (xN))
 |true=>
 rw [hf] at cF
 cases hk:l.all fun p=>Op.bytesLess p.1 [255] with
 |false=>
  rw [hk] at cK
  refine Ct.enter Tryz.func8 rfl Tryz.ntmps8 (by simp) (fun R=>?_)
  repeat' (first|(refine zBd ?_;refine zAz rfl (fun g4=>?_))|(refine zAd ?_;first|(refine zAc xE cK xP rfl (fun _=>?_))|(refine zAc xE cF xP rfl (fun _=>?_))|(refine zAc xE cL xP rfl (fun _=>?_)))|refine xst ?_|(refine xsa ?_;intro _)|(refine xsb ?_ ?_ <;>intro _<;>try (exfalso;omega))|refine xsc ?_|(refine zAb (id:=31) plUFZ0 (by kernel_rfl) (by kernel_rfl) ?_)|(refine zAb (id:=41) plUFZ1 (by kernel_rfl) (by kernel_rfl) ?_)|(refine zAb (id:=43) plUFZ2 (by kernel_rfl) (by kernel_rfl) ?_)|refine zAj ?_ ?_|refine zAi rfl rfl rfl rfl rfl ?_ ?_|refine zAf ?_ ?_|exact Rech.nil|fail)
  all_goals (refine is_ex ?_;exact zBq (by first|exact Or.inl rfl|exact Or.inr rfl) rfl (Rvs.cell (T:=4) rfl inferInstance xS rfl Rvs.nil) () (by rfl) (xN))
 |true=>
 rw [hk] at cK
 have I0:=ChI.first hf hk
 have hfew:=few_in hf
 clear hf hk
 obtain ⟨r0,hr0⟩:∃ x,x=ofR l:=⟨_,rfl⟩
 rw [← hr0] at cb I0
 clear hr0
 refine Ct.enter Tryz.func8 rfl Tryz.ntmps8 (by simp) (fun R=>?_)
 repeat' (first|(refine zBd ?_;first|(refine zAz (d:=5) rfl (fun g5=>?_))|(refine zAz (d:=4) rfl (fun g4=>?_)))|(refine zAd ?_;first|(refine zAc xE cb xP rfl (fun t=>?_))|(refine zAc xE cK xP rfl (fun _=>?_))|(refine zAc xE cF xP rfl (fun _=>?_))|(refine zAc xE cL xP rfl (fun _=>?_)))|refine xst ?_|(refine xsa ?_;intro _)|(refine xsb ?_ ?_ <;>intro _<;>try (exfalso;omega))|refine xsc ?_|(refine zAb (id:=31) plUFZ0 (by kernel_rfl) (by kernel_rfl) ?_)|(refine zAb (id:=41) plUFZ1 (by kernel_rfl) (by kernel_rfl) ?_)|(refine zAb (id:=43) plUFZ2 (by kernel_rfl) (by kernel_rfl) ?_)|refine zAj ?_ ?_|refine zAi rfl rfl rfl rfl rfl ?_ ?_|refine zAf ?_ ?_|exact Rech.nil|fail)
 refine zBm (fun x:{x:Nat × Rows//x.1≤S.length∧ChI (l.length+4*x.1) x.2}=>[(4,.pointer (some ⟨g4,0,none⟩)),(5,.pointer (some ⟨g5,0,none⟩)),(38,.slice b S.length d),(39,.int .i64 (S.length:Nat)),(40,.int .i64 (x.1.1:Nat))])
  (fun x=>[A,B,zAk g4 [.bool false] 4,zAk g5 [.pointer (some ⟨t,0,none⟩)] 25,TxQ t x.1.2 false (l.length+4*x.1.1)]++R) (fun x=>S.length-x.1.1) ⟨(0,r0),Nat.zero_le _,I0⟩ xB (xN) (fun ⟨(i,r),hi,hI⟩=>?_)
 dsimp only at hi hI ⊢
 by_cases hlt:i<S.length
 ·have ql:decide ((i:Int)<(S.length:Nat))=true:=decide_eq_true (by omega)
  obtain ⟨o,ho⟩:∃ s,S[i]? = some s:=⟨_,List.getElem?_eq_getElem hlt⟩
  have hmem:=List.mem_of_getElem? ho
  obtain ⟨o1,o2,o3,o4⟩:=X.op o hmem
  have osum:=sumO_mem hmem
  have hI2:=hI.tell (o:=o) (by omega) (by omega)
  have hris:=hI.ris
  have hlen:=hI.len
  have em:l.length+4*i+4=l.length+4*(i+1):=by omega
  rw [em] at hI2
  have hE37:ErrsOn L37 W F:=hE.all
  have c0:=chfound_ct (W:=W) (F:=F) (t:=t) (m:=l.length+4*i) (r:=r) (cur:=o.ac.cur) hE37 (by omega) (by omega) (by omega)
  have c1:=(chopen_ct (W:=W) (F:=F) (t:=t) (m:=l.length+4*i) (r:=r) (id:=o.ac.id) (cur:=o.ac.cur) hE37 (by omega) (by omega) (by omega) (by omega)).upM (G:=fun _=>[]) (show l.length+4*i+1≤l.length+4*i+4 by omega)
  have c3:=(chset_ct (W:=W) (F:=F) (t:=t) (m:=l.length+4*i) (r:=r) (a:=o.ac) hE37 (by omega) (by omega) o4 (by omega) (by omega)).upM (G:=fun _=>[]) (show l.length+4*i+1≤l.length+4*i+4 by omega)
  have c4:=(chfreeze_ct (W:=W) (F:=F) (t:=t) (m:=l.length+4*i) (r:=r) (id:=o.ac.id) hE37 (by omega) (fun s hs=>hI.lk hs) (by omega) (by omega) o.on).upM (G:=fun _=>[]) (show l.length+4*i+1≤l.length+4*i+4 by omega)
  have c5:=(chclose_ct (W:=W) (F:=F) (t:=t) (m:=l.length+4*i) (r:=r) (id:=o.ac.id) hE37 (by omega) (fun s hs=>hI.lk hs) (by omega) (by omega)).upM (G:=fun _=>[]) (show l.length+4*i+1≤l.length+4*i+4 by omega)
  rw [em] at c0 c1 c3 c4 c5
  refine KJ.lvSome hB xS (by omega) (fun ba oa hab=>?_)
  subst hab
  have hoff:oa+Int.toNat (i:Int)*9=oa+i*9:=by simp
  have e0:o.kind=0→tellR r o=foundR r o.ac.cur:=fun h=>by unfold tellR stepR;rw [h];rfl
  have e1:o.kind=1→tellR r o=openR r o.ac.id o.ac.cur:=fun h=>by unfold tellR stepR;rw [h];rfl
  have e3:o.kind=3→tellR r o=setR r o.ac:=fun h=>by unfold tellR stepR;rw [h];rfl
  have e4:o.kind=4→tellR r o=freezeR r o.ac.id o.on:=fun h=>by unfold tellR stepR;rw [h];rfl
  have e5:o.kind=5→tellR r o=closeR r o.ac.id:=fun h=>by unfold tellR stepR;rw [h];rfl
  have e9:o.kind≠0→o.kind≠1→o.kind≠3→o.kind≠4→o.kind≠5→tellR r o=r:=fun h0 h1 h3 h4 h5=>by
   unfold tellR
   split
   ·rfl
   ·unfold stepR
    rw [if_neg h0,if_neg h1,if_neg h3,if_neg h4,if_neg h5,if_neg (by assumption)]
  obtain ⟨r',hr'⟩:∃ x,x=tellR r o:=⟨_,rfl⟩
  rw [← hr'] at hI2 e0 e1 e3 e4 e5 e9
  clear hr'
  by_cases k0:o.kind=0
  ·have q0:decide (o.kind=0)=true:=decide_eq_true k0
   have e:=e0 k0
   rw [← e] at c0
   clear e0 e1 e3 e4 e5 e9 e
   repeat' (first|(refine zBd ?_;refine zAz rfl (fun g=>?_))|(refine zAd ?_;refine zAc xE c0 xP rfl (fun _=>?_))|(refine zAn ?_;refine zAa (zCb cop_ok hB rfl rfl xS hoff ho) ?_)|(refine zAw ?_;refine zAa (zAg (r:=((i+1:Nat):Int)) rfl rfl (by omega) (by omega)) ?_)|(refine zAv ?_;refine zAa (zAh rfl rfl q0) ?_)|(refine zAm ?_;refine zAa (zAe rfl rfl ql) ?_)|refine xst ?_|(refine xsa ?_;intro _)|(refine xsb ?_ ?_ <;>intro _<;>try (exfalso;omega))|refine xsc ?_|(refine zAb (id:=31) plUFZ0 (by kernel_rfl) (by kernel_rfl) ?_)|(refine zAb (id:=41) plUFZ1 (by kernel_rfl) (by kernel_rfl) ?_)|(refine zAb (id:=43) plUFZ2 (by kernel_rfl) (by kernel_rfl) ?_)|refine zAj ?_ ?_|refine zAi rfl rfl rfl rfl rfl ?_ ?_|refine zAf ?_ ?_|exact Rech.nil|fail)
   all_goals refine zAu ⟨(i+1,r'),hlt,hI2⟩ (by show S.length-(i+1)<S.length-i;omega) xB (xN)
  have q0:decide (o.kind=0)=false:=decide_eq_false k0
  by_cases k1:o.kind=1
  ·have q1:decide (o.kind=1)=true:=decide_eq_true k1
   have e:=e1 k1
   rw [← e] at c1
   clear e0 e1 e3 e4 e5 e9 e
   repeat' (first|(refine zBd ?_;refine zAz rfl (fun g=>?_))|(refine zAd ?_;refine zAc xE c1 xP rfl (fun _=>?_))|(refine zAn ?_;refine zAa (zCb cop_ok hB rfl rfl xS hoff ho) ?_)|(refine zAw ?_;refine zAa (zAg (r:=((i+1:Nat):Int)) rfl rfl (by omega) (by omega)) ?_)|(refine zAv ?_;first|refine zAa (zAh rfl rfl q1) ?_|refine zAa (zAh rfl rfl q0) ?_)|(refine zAm ?_;refine zAa (zAe rfl rfl ql) ?_)|refine xst ?_|(refine xsa ?_;intro _)|(refine xsb ?_ ?_ <;>intro _<;>try (exfalso;omega))|refine xsc ?_|(refine zAb (id:=31) plUFZ0 (by kernel_rfl) (by kernel_rfl) ?_)|(refine zAb (id:=41) plUFZ1 (by kernel_rfl) (by kernel_rfl) ?_)|(refine zAb (id:=43) plUFZ2 (by kernel_rfl) (by kernel_rfl) ?_)|refine zAj ?_ ?_|refine zAi rfl rfl rfl rfl rfl ?_ ?_|refine zAf ?_ ?_|exact Rech.nil|fail)
   all_goals refine zAu ⟨(i+1,r'),hlt,hI2⟩ (by show S.length-(i+1)<S.length-i;omega) xB (xN)
  have q1:decide (o.kind=1)=false:=decide_eq_false k1
  by_cases k3:o.kind=3
  ·have q3:decide (o.kind=3)=true:=decide_eq_true k3
   have e:=e3 k3
   rw [← e] at c3
   clear e0 e1 e3 e4 e5 e9 e
   repeat' (first|(refine zBd ?_;refine zAz rfl (fun g=>?_))|(refine zAd ?_;refine zAc xE c3 xP rfl (fun _=>?_))|(refine zAn ?_;refine zAa (zCb cop_ok hB rfl rfl xS hoff ho) ?_)|(refine zAw ?_;refine zAa (zAg (r:=((i+1:Nat):Int)) rfl rfl (by omega) (by omega)) ?_)|(refine zAv ?_;first|refine zAa (zAh rfl rfl q3) ?_|refine zAa (zAh rfl rfl q1) ?_|refine zAa (zAh rfl rfl q0) ?_)|(refine zAm ?_;refine zAa (zAe rfl rfl ql) ?_)|refine xst ?_|(refine xsa ?_;intro _)|(refine xsb ?_ ?_ <;>intro _<;>try (exfalso;omega))|refine xsc ?_|(refine zAb (id:=31) plUFZ0 (by kernel_rfl) (by kernel_rfl) ?_)|(refine zAb (id:=41) plUFZ1 (by kernel_rfl) (by kernel_rfl) ?_)|(refine zAb (id:=43) plUFZ2 (by kernel_rfl) (by kernel_rfl) ?_)|refine zAj ?_ ?_|refine zAi rfl rfl rfl rfl rfl ?_ ?_|refine zAf ?_ ?_|exact Rech.nil|fail)
   all_goals refine zAu ⟨(i+1,r'),hlt,hI2⟩ (by show S.length-(i+1)<S.length-i;omega) xB (xN)
  have q3:decide (o.kind=3)=false:=decide_eq_false k3
  by_cases k4:o.kind=4
  ·have q4:decide (o.kind=4)=true:=decide_eq_true k4
   have e:=e4 k4
   rw [← e] at c4
   clear e0 e1 e3 e4 e5 e9 e
   repeat' (first|(refine zBd ?_;refine zAz rfl (fun g=>?_))|(refine zAd ?_;refine zAc xE c4 xP rfl (fun _=>?_))|(refine zAn ?_;refine zAa (zCb cop_ok hB rfl rfl xS hoff ho) ?_)|(refine zAw ?_;refine zAa (zAg (r:=((i+1:Nat):Int)) rfl rfl (by omega) (by omega)) ?_)|(refine zAv ?_;first|refine zAa (zAh rfl rfl q4) ?_|refine zAa (zAh rfl rfl q3) ?_|refine zAa (zAh rfl rfl q1) ?_|refine zAa (zAh rfl rfl q0) ?_)|(refine zAm ?_;refine zAa (zAe rfl rfl ql) ?_)|refine xst ?_|(refine xsa ?_;intro _)|(refine xsb ?_ ?_ <;>intro _<;>try (exfalso;omega))|refine xsc ?_|(refine zAb (id:=31) plUFZ0 (by kernel_rfl) (by kernel_rfl) ?_)|(refine zAb (id:=41) plUFZ1 (by kernel_rfl) (by kernel_rfl) ?_)|(refine zAb (id:=43) plUFZ2 (by kernel_rfl) (by kernel_rfl) ?_)|refine zAj ?_ ?_|refine zAi rfl rfl rfl rfl rfl ?_ ?_|refine zAf ?_ ?_|exact Rech.nil|fail)
   all_goals refine zAu ⟨(i+1,r'),hlt,hI2⟩ (by show S.length-(i+1)<S.length-i;omega) xB (xN)
  have q4:decide (o.kind=4)=false:=decide_eq_false k4
  by_cases k5:o.kind=5
  ·have q5:decide (o.kind=5)=true:=decide_eq_true k5
   have e:=e5 k5
   rw [← e] at c5
   clear e0 e1 e3 e4 e5 e9 e
   repeat' (first|(refine zBd ?_;refine zAz rfl (fun g=>?_))|(refine zAd ?_;refine zAc xE c5 xP rfl (fun _=>?_))|(refine zAn ?_;refine zAa (zCb cop_ok hB rfl rfl xS hoff ho) ?_)|(refine zAw ?_;refine zAa (zAg (r:=((i+1:Nat):Int)) rfl rfl (by omega) (by omega)) ?_)|(refine zAv ?_;first|refine zAa (zAh rfl rfl q5) ?_|refine zAa (zAh rfl rfl q4) ?_|refine zAa (zAh rfl rfl q3) ?_|refine zAa (zAh rfl rfl q1) ?_|refine zAa (zAh rfl rfl q0) ?_)|(refine zAm ?_;refine zAa (zAe rfl rfl ql) ?_)|refine xst ?_|(refine xsa ?_;intro _)|(refine xsb ?_ ?_ <;>intro _<;>try (exfalso;omega))|refine xsc ?_|(refine zAb (id:=31) plUFZ0 (by kernel_rfl) (by kernel_rfl) ?_)|(refine zAb (id:=41) plUFZ1 (by kernel_rfl) (by kernel_rfl) ?_)|(refine zAb (id:=43) plUFZ2 (by kernel_rfl) (by kernel_rfl) ?_)|refine zAj ?_ ?_|refine zAi rfl rfl rfl rfl rfl ?_ ?_|refine zAf ?_ ?_|exact Rech.nil|fail)
   all_goals refine zAu ⟨(i+1,r'),hlt,hI2⟩ (by show S.length-(i+1)<S.length-i;omega) xB (xN)
  have q5:decide (o.kind=5)=false:=decide_eq_false k5
  have e:=e9 k0 k1 k3 k4 k5
  rw [e] at hI2
  refine KJ.txUp (m:=l.length+4*i) (m':=l.length+4*(i+1)) (by omega) xS ?_
  clear e0 e1 e3 e4 e5 e9 e
  repeat' (first|(refine zBd ?_;refine zAz rfl (fun g=>?_))|(refine zAn ?_;refine zAa (zCb cop_ok hB rfl rfl xS hoff ho) ?_)|(refine zAw ?_;refine zAa (zAg (r:=((i+1:Nat):Int)) rfl rfl (by omega) (by omega)) ?_)|(refine zAv ?_;first|refine zAa (zAh rfl rfl q5) ?_|refine zAa (zAh rfl rfl q4) ?_|refine zAa (zAh rfl rfl q3) ?_|refine zAa (zAh rfl rfl q1) ?_|refine zAa (zAh rfl rfl q0) ?_)|(refine zAm ?_;refine zAa (zAe rfl rfl ql) ?_)|refine xst ?_|(refine xsa ?_;intro _)|(refine xsb ?_ ?_ <;>intro _<;>try (exfalso;omega))|refine xsc ?_|(refine zAb (id:=31) plUFZ0 (by kernel_rfl) (by kernel_rfl) ?_)|(refine zAb (id:=41) plUFZ1 (by kernel_rfl) (by kernel_rfl) ?_)|(refine zAb (id:=43) plUFZ2 (by kernel_rfl) (by kernel_rfl) ?_)|refine zAj ?_ ?_|refine zAi rfl rfl rfl rfl rfl ?_ ?_|refine zAf ?_ ?_|exact Rech.nil|fail)
  all_goals refine zAu ⟨(i+1,r),hlt,hI2⟩ (by show S.length-(i+1)<S.length-i;omega) xB (xN)
 have ql:decide ((i:Int)<(S.length:Nat))=false:=decide_eq_false (by omega)
 have hrl:=hI.len
 have hris:=hI.ris
 have hIk:=hI.key
 have hE37:ErrsOn L37 W F:=hE.all
 have hmb:l.length+4*i≤100000000:=by omega
 refine KJ.unpack_at (F:=fun x:{x:Nat × List (List UInt8 × Bool) × List UE//x.2.2.length≤l.length+4*i}=>[TxP t x.1.1 r x.1.2.1 x.1.2.2 false]) xS (fun ⟨(s,K,U),hU⟩=>?_)
 dsimp only at hU ⊢
 refine KJ.txOpen xS (fun y hT=>?_)
 obtain ⟨tr,mm,hR,hin,hacc⟩:=rg_all hT
 have hmem:∀ ac ∈ acctsD r,getO ac.id (lk r (aKey ac.id))=some ac:=fun ac h=>tells_mem hris h
 have hnext:∀ j x z,(acctsD r)[j]? = some x→(acctsD r)[j+1]? = some z→Op.bytesLess x.id z.id=true:=fun j x z h1 h2=>tells_next hris h1 h2
 have hidl:∀ ac ∈ acctsD r,ac.id.length≤2000000:=fun ac h=>tells_len (fun p hp=>(hIk p hp).1) h
 have hat:∀ j p ac,r[j]? = some p→accD p=some ac→(acctsD r)[(acctsD (r.take j)).length]? = some ac:=fun j p ac h1 h2=>acctsD_at h1 h2
 have hQl:(acctsD r).length≤r.length:=by have:=acctsD_len r r.length;rwa [List.take_length] at this
 obtain ⟨Q,hQ⟩:∃ Q,Q=acctsD r:=⟨_,rfl⟩
 rw [← hQ] at hacc hmem hnext hidl hat hQl
 have cA:=chall_open (W:=W) (t:=t) (s:=s) (l:=U.length) (y:=y)
 have hkk:∀ p ∈ tr.frm [2,97,0,1],p.1.length≤2000000∧p.2.length≤9223372036854775000:=fun p hp=>⟨(hIk p (hin p hp)).1,(hIk p (hin p hp)).2.1⟩
 repeat' (first|(refine zBd ?_;refine zAz (d:=8) rfl (fun g8=>?_))|(refine zAd ?_;refine zAc xE cA xP rfl (fun z=>?_);obtain ⟨gz,z1,z2,z3⟩:=z)|(refine zBa ?_;refine KJ_bslice0 rfl (fun gm=>?_))|(refine zAv ?_;refine zAa (Ev_eqlFn2 rfl rfl) ?_)|(refine zAm ?_;refine zAa (zAe rfl rfl ql) ?_)|refine xst ?_|(refine xsa ?_;intro _)|(refine xsb ?_ ?_ <;>intro _<;>try (exfalso;omega))|refine xsc ?_|(refine zAb (id:=31) plUFZ0 (by kernel_rfl) (by kernel_rfl) ?_)|(refine zAb (id:=41) plUFZ1 (by kernel_rfl) (by kernel_rfl) ?_)|(refine zAb (id:=43) plUFZ2 (by kernel_rfl) (by kernel_rfl) ?_)|refine zAj ?_ ?_|refine zAi rfl rfl rfl rfl rfl ?_ ?_|refine zAf ?_ ?_|exact Rech.nil|fail)
 obtain ⟨G,hG⟩:∃ G:Nat→Option Addr × Nat→List SP,G=fun i x=>[zAk g8 [.slice x.1 (Q.take i).length x.2] 73,lsP acC 51 6 (.slice x.1 (Q.take i).length x.2) (Q.take i),zAk g5 [.pointer (some ⟨t,0,none⟩)] 25,zAk t (txC s y U.length false) 128,tbP y.q y.a y.b]:=⟨_,rfl⟩
 have hGi:∀ i x,G i x=[zAk g8 [.slice x.1 (Q.take i).length x.2] 73,lsP acC 51 6 (.slice x.1 (Q.take i).length x.2) (Q.take i),zAk g5 [.pointer (some ⟨t,0,none⟩)] 25,zAk t (txC s y U.length false) 128,tbP y.q y.a y.b]:=fun i x=>by rw [hG]
 clear hG
 refine KJ.packs (tag:=85) (key:=g8) (F:=G 0) (some ⟨gm,0,none⟩,0) (by rw [hGi];exact xP) ?_
 refine KJ_rangeAllB (F:=F) (g:=gz) (x:=(z1,z2,z3)) (a:=y.a) (N:=y.N) hE37 rfl rfl hR hkk rfl (by decide) Q hacc.symm (fun i=>packP 85 g8 (G i)) (fun _=>factP False) .ret xP (fun lp i ac hia R'=>?_) ?_ (fun i him=>?_)
 ·have hiQ:i<Q.length:=(List.getElem?_eq_some_iff.1 hia).1
  have hacm:=List.mem_of_getElem? hia
  have cG:=chget_open (W:=W) (F:=F) (t:=t) (s:=s) (l:=U.length) (y:=y) hE37 hT (id:=ac.id) (hidl ac hacm) (fun v hv=>(hIk _ (lk_mem hv)).2.1)
  rw [getV_some F (hmem ac hacm)] at cG
  have hself:=ac_self ac Tryz.underlying51
  have em:Q.take i++[ac]=Q.take (i+1):=by rw [List.take_add_one,hia];rfl
  have eT:(Q.take i).length=i:=by rw [List.length_take];omega
  have hprev:∀ j,i=j+1→∃ b,(Q.take i)[j]? = some b∧Op.bytesLess b.id ac.id=true:=fun j hj=>by
   obtain ⟨b,hb⟩:∃ b,Q[j]? = some b:=⟨_,List.getElem?_eq_getElem (show j<Q.length by omega)⟩
   refine ⟨b,by rw [List.getElem?_take,if_pos (by omega)];exact hb,hnext j b ac hb (by rw [← hj];exact hia)⟩
  dsimp only [Env.ofPs]
  refine KJ.unpack_at (F:=G i) xS (fun x=>?_)
  rw [hGi]
  refine KJ.allShut (L:=txO t s y U.length) 84 xP ?_
  obtain ⟨T,hTT⟩:∃ T,T=Q.take i:=⟨_,rfl⟩
  rw [← hTT] at em eT hprev ⊢
  have m1:(T.length+1)*64≤140737488355328:=by omega
  have m2:T.length+1≤9223372036854775807:=by omega
  obtain ⟨xa,xc⟩:=x
  dsimp only
  by_cases hi0:i=0
  ·have qg:decide ((0:Int)<(T.length:Nat))=false:=decide_eq_false (by omega)
   repeat' (first|(refine is_begin ?_;refine KJ_begin xS ?_)|(refine zBd ?_;refine zAz rfl (fun ga=>?_))|(refine zAd ?_;refine zAc xE cG xP rfl (fun _=>?_);refine KJ.allOpen (L:=txO t s y U.length) xS ?_)|(refine zBp ?_;refine zBx (l:=T) (a:=ac) ac_ok rfl rfl rfl xS xS m1 m2 rfl (fun g' c'=>?_))|(refine zBa ?_;refine zBh rfl xF (by rfl) (by omega) rfl (fun gb=>?_);show KJ W _ _ _ (zAk gb (acC ac) 51::_))|(refine zBb ?_;refine zAa (zBc xV xW) ?_)|(refine zAx ?_;refine zAa (Ev_neqSt rfl rfl hself rfl) ?_)|(refine zBg ?_;refine zAa (zAq rfl rfl qg) ?_)|refine xst ?_|(refine xsa ?_;intro _)|(refine xsb ?_ ?_ <;>intro _<;>try (exfalso;omega))|refine xsc ?_|(refine zAb (id:=31) plUFZ0 (by kernel_rfl) (by kernel_rfl) ?_)|(refine zAb (id:=41) plUFZ1 (by kernel_rfl) (by kernel_rfl) ?_)|(refine zAb (id:=43) plUFZ2 (by kernel_rfl) (by kernel_rfl) ?_)|refine zAj ?_ ?_|refine zAi rfl rfl rfl rfl rfl ?_ ?_|refine zAf ?_ ?_|exact Rech.nil|fail)
   all_goals rw [em]
   all_goals refine KJ.packs (tag:=85) (key:=g8) (F:=G (i+1)) (some ⟨g',0,none⟩,c') (by rw [hGi];exact xP) ?_
   all_goals exact KJ_round_t xS (xN)
  ·obtain ⟨j,rfl⟩:∃ j,i=j+1:=⟨i-1,by omega⟩
   obtain ⟨b0,hb0,hless⟩:=hprev j rfl
   have qg:decide ((0:Int)<(T.length:Nat))=true:=decide_eq_true (by omega)
   have qs:(!Op.bytesLess b0.id ac.id)=false:=by rw [hless];rfl
   have hoff:0+Int.toNat ((j:Nat):Int)*6+0=j*6+0:=by simp
   refine KJ.lsSome (l:=T) (a:=xa) (c:=xc) (m:=T.length) xS (by omega) (fun gx hgx=>?_)
   subst hgx
   repeat' (first|(refine is_begin ?_;refine KJ_begin xS ?_)|(refine zBd ?_;refine zAz rfl (fun ga=>?_))|(refine zAd ?_;refine zAc xE cG xP rfl (fun _=>?_);refine KJ.allOpen (L:=txO t s y U.length) xS ?_)|(refine zBp ?_;refine zBx (l:=T) (a:=ac) ac_ok rfl rfl rfl xS xS m1 m2 rfl (fun g' c'=>?_))|(refine zBa ?_;refine zBh rfl xF (by rfl) (by omega) rfl (fun gb=>?_);show KJ W _ _ _ (zAk gb (acC ac) 51::_))|(refine zAn ?_;refine zAa (Ev_loadLsF (j:=0) ac_ok rfl xS rfl hoff hb0 rfl) ?_)|(refine zBb ?_;refine zAa (zBc xV xW) ?_)|(refine ek_sub ?_;refine zAa (Ev_subI_v (r:=((j:Nat):Int)) rfl rfl (by omega) (by omega)) ?_)|(refine zAx ?_;refine zAa (Ev_neqSt rfl rfl hself rfl) ?_)|(refine zBg ?_;refine zAa (zAq rfl rfl qg) ?_)|(refine zCh ?_;refine zAa (Ev_geqS_q rfl rfl qs) ?_)|refine xst ?_|(refine xsa ?_;intro _)|(refine xsb ?_ ?_ <;>intro _<;>try (exfalso;omega))|refine xsc ?_|(refine zAb (id:=31) plUFZ0 (by kernel_rfl) (by kernel_rfl) ?_)|(refine zAb (id:=41) plUFZ1 (by kernel_rfl) (by kernel_rfl) ?_)|(refine zAb (id:=43) plUFZ2 (by kernel_rfl) (by kernel_rfl) ?_)|refine zAj ?_ ?_|refine zAi rfl rfl rfl rfl rfl ?_ ?_|refine zAf ?_ ?_|exact Rech.nil|fail)
   all_goals rw [em]
   all_goals refine KJ.packs (tag:=85) (key:=g8) (F:=G (j+1+1)) (some ⟨g',0,none⟩,c') (by rw [hGi];exact xP) ?_
   all_goals exact KJ_round_t xS (xN)
 ·refine KJ.unpack_at (F:=G Q.length) xS (fun x=>?_)
  rw [hGi,List.take_length]
  obtain ⟨xa,xc⟩:=x
  dsimp only
  refine KJ.txShut (s:=s) (K:=K) (U:=U) (ended:=false) y hT xP ?_
  refine KJ.packs (tag:=83) (key:=t) (F:=fun x:{x:Nat × List (List UInt8 × Bool) × List UE//x.2.2.length≤l.length+4*i}=>[TxP t x.1.1 r x.1.2.1 x.1.2.2 false]) ⟨(s,K,U),hU⟩ xP ?_
  have ck:=look15_ct (W:=W) (t:=t) (m:=l.length+4*i) (r:=r) (by omega) (fun p hp=>(hIk p hp).2.2)
  repeat' (first|(refine zAd ?_;refine zAc xE ck xP rfl (fun x=>?_);obtain ⟨ya,yc⟩:=x)|refine xst ?_|(refine xsa ?_;intro _)|(refine xsb ?_ ?_ <;>intro _<;>try (exfalso;omega))|refine xsc ?_|(refine zAb (id:=31) plUFZ0 (by kernel_rfl) (by kernel_rfl) ?_)|(refine zAb (id:=41) plUFZ1 (by kernel_rfl) (by kernel_rfl) ?_)|(refine zAb (id:=43) plUFZ2 (by kernel_rfl) (by kernel_rfl) ?_)|refine zAj ?_ ?_|refine zAi rfl rfl rfl rfl rfl ?_ ?_|refine zAf ?_ ?_|exact Rech.nil|fail)
  have hL:Lv W rC 2 (rwP (ya,yc) r) ya r:=Lv.own rC_ok rfl
  obtain ⟨Y,hY⟩:∃ Y,Y=rwP (ya,yc) r:=⟨_,rfl⟩
  rw [← hY] at hL ⊢
  clear hY
  refine zBm (fun x:{x:Nat × Nat//x.1≤r.length∧x.2=(acctsD (r.take x.1)).length}=>[(4,.pointer (some ⟨g4,0,none⟩)),(5,.pointer (some ⟨g5,0,none⟩)),(8,.pointer (some ⟨g8,0,none⟩)),(14,.int .i64 (x.1.2:Nat)),(16,.bool true),(133,.slice ya r.length yc),(134,.int .i64 (r.length:Nat)),(135,.int .i64 (x.1.1:Nat))])
   (fun x=>[A,B,Y,zAk g4 [.bool false] 4,zAk g5 [.pointer (some ⟨t,0,none⟩)] 25,TxQ t r false (l.length+4*i),zAk g8 [.slice xa Q.length xc] 73,lsP acC 51 6 (.slice xa Q.length xc) Q]++R) (fun x=>r.length-x.1.1) ⟨(0,0),Nat.zero_le _,rfl⟩ xB (xN) (fun ⟨(j,f),hi,hf⟩=>?_)
  dsimp only at hi hf ⊢
  by_cases hlt:j<r.length
  rotate_left
  ·have ql:decide ((j:Int)<(r.length:Nat))=false:=decide_eq_false (by omega)
   rw [List.take_of_length_le (by omega),← hQ] at hf
   have qe:decide (((f:Nat):Int)=(Q.length:Nat))=true:=decide_eq_true (by omega)
   repeat' (first|(refine zAv ?_;refine zAa (zAh rfl rfl qe) ?_)|(refine zAm ?_;refine zAa (zAe rfl rfl ql) ?_)|refine xst ?_|(refine xsa ?_;intro _)|(refine xsb ?_ ?_ <;>intro _<;>try (exfalso;omega))|refine xsc ?_|(refine zAb (id:=31) plUFZ0 (by kernel_rfl) (by kernel_rfl) ?_)|(refine zAb (id:=41) plUFZ1 (by kernel_rfl) (by kernel_rfl) ?_)|(refine zAb (id:=43) plUFZ2 (by kernel_rfl) (by kernel_rfl) ?_)|refine zAj ?_ ?_|refine zAi rfl rfl rfl rfl rfl ?_ ?_|refine zAf ?_ ?_|exact Rech.nil|fail)
   all_goals (refine is_ex ?_;exact zBq (by first|exact Or.inl rfl|exact Or.inr rfl) rfl (Rvs.cell (T:=4) rfl inferInstance xS rfl Rvs.nil) () (by rfl) (xN))
  have ql:decide ((j:Int)<(r.length:Nat))=true:=decide_eq_true (by omega)
  obtain ⟨p,hp⟩:∃ s,r[j]? = some s:=⟨_,List.getElem?_eq_getElem hlt⟩
  have hpm:=List.mem_of_getElem? hp
  have hk1:=(hIk p hpm).1
  have hnx:=acctsD_next hp
  have same:accD p=none→f=(acctsD (r.take (j+1))).length:=fun h=>by rw [hnx,h,hf];simp
  have more:∀ ac,accD p=some ac→f+1=(acctsD (r.take (j+1))).length:=fun ac h=>by rw [hnx,h,hf];simp
  have hfl:f≤j:=by rw [hf];exact acctsD_len r j
  have hatp:=hat j p
  rw [← hf] at hatp
  clear hnx hat
  refine KJ.lvSome hL xS (by omega) (fun b of hab=>?_)
  subst hab
  have hoff:of+Int.toNat (j:Int)*2=of+j*2:=by simp
  have cs:=dsplit_ct (W:=W) p.1 (by omega)
  cases hsp:zCd p.1 with
  |none=>
   rw [hsp] at cs
   have cs:Ct Tryz.prog W 49 [strV p.1] [] (fun z:Option Addr × Nat=>.tuple #[.slice z.1 0 z.2,.int .i64 7]) _:=cs
   repeat' (first|(refine zBd ?_;refine zAz rfl (fun g=>?_))|(refine zAd ?_;refine zAc xE cs xP rfl (fun z=>?_))|(refine zAn ?_;refine zAa (zCb rC_ok hL rfl rfl xS hoff hp) ?_)|(refine zAw ?_;refine zAa (zAg (r:=((j+1:Nat):Int)) rfl rfl (by omega) (by omega)) ?_)|(refine zAx ?_;refine zAa (zBk (q:=true) rfl rfl rfl) ?_)|(refine zAm ?_;refine zAa (zAe rfl rfl ql) ?_)|refine xst ?_|(refine xsa ?_;intro _)|(refine xsb ?_ ?_ <;>intro _<;>try (exfalso;omega))|refine xsc ?_|(refine zAb (id:=31) plUFZ0 (by kernel_rfl) (by kernel_rfl) ?_)|(refine zAb (id:=41) plUFZ1 (by kernel_rfl) (by kernel_rfl) ?_)|(refine zAb (id:=43) plUFZ2 (by kernel_rfl) (by kernel_rfl) ?_)|refine zAj ?_ ?_|refine zAi rfl rfl rfl rfl rfl ?_ ?_|refine zAf ?_ ?_|exact Rech.nil|fail)
   all_goals refine zAu ⟨(j+1,f),hlt,same (accD_none hsp)⟩ (by show r.length-(j+1)<r.length-j;omega) xB (xN)
  |some Lp=>
   rw [hsp] at cs
   have cs:Ct Tryz.prog W 49 [strV p.1] [] (fun z:Option Addr × Nat=>.tuple #[.slice z.1 Lp.length z.2,.int .i64 0]) (fun z=>[lsP kqC 94 3 (.slice z.1 Lp.length z.2) Lp]):=cs
   by_cases h2:Lp.length=2
   rotate_left
   ·have q2:decide (((Lp.length:Nat):Int)≠2)=true:=decide_eq_true (by omega)
    repeat' (first|(refine zBd ?_;refine zAz rfl (fun g=>?_))|(refine zAd ?_;refine zAc xE cs xP rfl (fun z=>?_))|(refine zAn ?_;refine zAa (zCb rC_ok hL rfl rfl xS hoff hp) ?_)|(refine zAw ?_;refine zAa (zAg (r:=((j+1:Nat):Int)) rfl rfl (by omega) (by omega)) ?_)|(refine zAx ?_;first|refine zAa (zBk (q:=false) rfl rfl rfl) ?_|refine zAa (zBk rfl rfl q2) ?_)|(refine zAm ?_;refine zAa (zAe rfl rfl ql) ?_)|refine xst ?_|(refine xsa ?_;intro _)|(refine xsb ?_ ?_ <;>intro _<;>try (exfalso;omega))|refine xsc ?_|(refine zAb (id:=31) plUFZ0 (by kernel_rfl) (by kernel_rfl) ?_)|(refine zAb (id:=41) plUFZ1 (by kernel_rfl) (by kernel_rfl) ?_)|(refine zAb (id:=43) plUFZ2 (by kernel_rfl) (by kernel_rfl) ?_)|refine zAj ?_ ?_|refine zAi rfl rfl rfl rfl rfl ?_ ?_|refine zAf ?_ ?_|exact Rech.nil|fail)
    all_goals refine zAu ⟨(j+1,f),hlt,same (accD_other hsp h2)⟩ (by show r.length-(j+1)<r.length-j;omega) xB (xN)
   match Lp,h2,hsp,cs with
   |[⟨num0,nn0,s0⟩,⟨num,nn,sid⟩],_,hsp,cs=>
    have hacc2:=accD_two hsp
    have hsl:sid.length≤2000000:=Nat.le_trans (splitP_len _ (Nat.le_refl _) hsp ⟨num,nn,sid⟩ (by simp)) hk1
    have hq0:([⟨num0,nn0,s0⟩,⟨num,nn,sid⟩]:List KPt)[0]? = some ⟨num0,nn0,s0⟩:=rfl
    have hq1:([⟨num0,nn0,s0⟩,⟨num,nn,sid⟩]:List KPt)[1]? = some ⟨num,nn,sid⟩:=rfl
    have hpos:0<([⟨num0,nn0,s0⟩,⟨num,nn,sid⟩]:List KPt).length:=Nat.succ_pos _
    have heq:=kq_eqF ⟨num0,nn0,s0⟩ (kT [97]) Tryz.underlying94
    by_cases hqa:(⟨num0,nn0,s0⟩:KPt)=kT [97]
    rotate_left
    ·rw [decide_eq_false hqa] at heq
     repeat' (first|(refine zBd ?_;refine zAz rfl (fun g=>?_))|(refine zAd ?_;refine zAc xE cs xP rfl (fun z=>?_);obtain ⟨za,zc⟩:=z;refine KJ.lsSome (a:=za) (c:=zc) (m:=2) xS hpos (fun g9 hg9=>?_);subst hg9)|(refine zAn ?_;first|refine zAa (zCb rC_ok hL rfl rfl xS hoff hp) ?_|refine zAa (Ev_loadLs kq_ok rfl xS rfl (by rfl) hq0) ?_|refine zAa (Ev_loadLsF (j:=0) kq_ok rfl xS rfl (by rfl) hq1 rfl) ?_|refine zAa (Ev_loadLsF (j:=2) kq_ok rfl xS rfl (by rfl) hq1 rfl) ?_)|(refine zBb ?_;refine zAa (zBc xV xW) ?_)|(refine zAw ?_;refine zAa (zAg (r:=((j+1:Nat):Int)) rfl rfl (by omega) (by omega)) ?_)|(refine zAx ?_;first|refine zAa (zBk (q:=false) rfl rfl rfl) ?_|refine zAa (Ev_neqSt rfl rfl heq rfl) ?_)|(refine zAm ?_;refine zAa (zAe rfl rfl ql) ?_)|refine xst ?_|(refine xsa ?_;intro _)|(refine xsb ?_ ?_ <;>intro _<;>try (exfalso;omega))|refine xsc ?_|(refine zAb (id:=31) plUFZ0 (by kernel_rfl) (by kernel_rfl) ?_)|(refine zAb (id:=41) plUFZ1 (by kernel_rfl) (by kernel_rfl) ?_)|(refine zAb (id:=43) plUFZ2 (by kernel_rfl) (by kernel_rfl) ?_)|refine zAj ?_ ?_|refine zAi rfl rfl rfl rfl rfl ?_ ?_|refine zAf ?_ ?_|exact Rech.nil|fail)
     all_goals refine zAu ⟨(j+1,f),hlt,same (by rw [hacc2];exact if_neg (fun h=>hqa h.1))⟩ (by show r.length-(j+1)<r.length-j;omega) xB (xN)
    rw [decide_eq_true hqa] at heq
    cases num with
    |true=>
     repeat' (first|(refine zBd ?_;refine zAz rfl (fun g=>?_))|(refine zAd ?_;refine zAc xE cs xP rfl (fun z=>?_);obtain ⟨za,zc⟩:=z;refine KJ.lsSome (a:=za) (c:=zc) (m:=2) xS hpos (fun g9 hg9=>?_);subst hg9)|(refine zAn ?_;first|refine zAa (zCb rC_ok hL rfl rfl xS hoff hp) ?_|refine zAa (Ev_loadLs kq_ok rfl xS rfl (by rfl) hq0) ?_|refine zAa (Ev_loadLsF (j:=0) kq_ok rfl xS rfl (by rfl) hq1 rfl) ?_|refine zAa (Ev_loadLsF (j:=2) kq_ok rfl xS rfl (by rfl) hq1 rfl) ?_)|(refine zBb ?_;refine zAa (zBc xV xW) ?_)|(refine zAw ?_;refine zAa (zAg (r:=((j+1:Nat):Int)) rfl rfl (by omega) (by omega)) ?_)|(refine zAx ?_;first|refine zAa (zBk (q:=false) rfl rfl rfl) ?_|refine zAa (Ev_neqSt rfl rfl heq rfl) ?_)|(refine zAm ?_;refine zAa (zAe rfl rfl ql) ?_)|refine xst ?_|(refine xsa ?_;intro _)|(refine xsb ?_ ?_ <;>intro _<;>try (exfalso;omega))|refine xsc ?_|(refine zAb (id:=31) plUFZ0 (by kernel_rfl) (by kernel_rfl) ?_)|(refine zAb (id:=41) plUFZ1 (by kernel_rfl) (by kernel_rfl) ?_)|(refine zAb (id:=43) plUFZ2 (by kernel_rfl) (by kernel_rfl) ?_)|refine zAj ?_ ?_|refine zAi rfl rfl rfl rfl rfl ?_ ?_|refine zAf ?_ ?_|exact Rech.nil|fail)
     all_goals refine zAu ⟨(j+1,f),hlt,same (by rw [hacc2];exact if_neg (fun h=>by cases h.2))⟩ (by show r.length-(j+1)<r.length-j;omega) xB (xN)
    |false=>
     have hacc3:accD p=decA sid p.2:=by rw [hacc2];exact if_pos ⟨hqa,rfl⟩
     have hsp2:=hsp
     rw [hqa] at hsp2
     have hkey:p.1=aKey sid:=split_a hsp2 rfl
     have hlk:lk r (aKey sid)=some p.2:=by rw [← hkey];exact ris_lk hris hpm
     have cG:=chget_ct (W:=W) (F:=F) (T:=TxQ t r false (l.length+4*i)) (t:=t) (id:=sid) (o:=lk r (aKey sid)) (by omega) (fun v hv=>(hIk _ (lk_mem hv)).2.1) hE37 (txgetC (aKey sid))
     rw [hlk] at cG
     clear hsp2 hkey hlk
     cases hd:decA sid p.2 with
     |none=>
      rw [hd] at hacc3
      have hg0:getO sid (some p.2)=none:=hd
      have hne:=errNe (F:=F) (getE_none hg0).1
      rw [getV_none F hg0] at cG
      obtain ⟨e,he⟩:∃ e,e=getE sid (some p.2):=⟨_,rfl⟩
      rw [← he] at cG hne
      repeat' (first|(refine zBd ?_;refine zAz rfl (fun g=>?_))|(refine zAd ?_;first|(refine zAc xE cs xP rfl (fun z=>?_);obtain ⟨za,zc⟩:=z;refine KJ.lsSome (a:=za) (c:=zc) (m:=2) xS hpos (fun g9 hg9=>?_);subst hg9)|(refine zAc xE cG xP rfl (fun _=>?_)))|(refine zAn ?_;first|refine zAa (zCb rC_ok hL rfl rfl xS hoff hp) ?_|refine zAa (Ev_loadLs kq_ok rfl xS rfl (by rfl) hq0) ?_|refine zAa (Ev_loadLsF (j:=0) kq_ok rfl xS rfl (by rfl) hq1 rfl) ?_|refine zAa (Ev_loadLsF (j:=2) kq_ok rfl xS rfl (by rfl) hq1 rfl) ?_)|(refine zBb ?_;refine zAa (zBc xV xW) ?_)|(refine zAw ?_;refine zAa (zAg (r:=((j+1:Nat):Int)) rfl rfl (by omega) (by omega)) ?_)|(refine zAx ?_;first|refine zAa (zBk (q:=false) rfl rfl rfl) ?_|refine zAa (Ev_neqSt rfl rfl heq rfl) ?_|refine zAa (zCi rfl hne) ?_)|(refine zAm ?_;refine zAa (zAe rfl rfl ql) ?_)|refine xst ?_|(refine xsa ?_;intro _)|(refine xsb ?_ ?_ <;>intro _<;>try (exfalso;omega))|refine xsc ?_|(refine zAb (id:=31) plUFZ0 (by kernel_rfl) (by kernel_rfl) ?_)|(refine zAb (id:=41) plUFZ1 (by kernel_rfl) (by kernel_rfl) ?_)|(refine zAb (id:=43) plUFZ2 (by kernel_rfl) (by kernel_rfl) ?_)|refine zAj ?_ ?_|refine zAi rfl rfl rfl rfl rfl ?_ ?_|refine zAf ?_ ?_|exact Rech.nil|fail)
      all_goals refine zAu ⟨(j+1,f),hlt,same hacc3⟩ (by show r.length-(j+1)<r.length-j;omega) xB (xN)
     |some ac=>
      rw [hd] at hacc3
      have hg0:getO sid (some p.2)=some ac:=hd
      rw [getV_some F hg0] at cG
      have hQf:=hatp ac hp hacc3
      have hfQ:f<Q.length:=(List.getElem?_eq_some_iff.1 hQf).1
      have qge:decide (((Q.length:Nat):Int)≤((f:Nat):Int))=false:=decide_eq_false (by omega)
      have hself:=ac_self ac Tryz.underlying51
      have hoff2:0+Int.toNat ((f:Nat):Int)*6=f*6:=by simp
      refine KJ.lsSome (l:=Q) (a:=xa) (c:=xc) (m:=Q.length) xS (by omega) (fun gx hgx=>?_)
      subst hgx
      repeat' (first|(refine zBd ?_;refine zAz rfl (fun g=>?_))|(refine zAd ?_;first|(refine zAc xE cs xP rfl (fun z=>?_);obtain ⟨za,zc⟩:=z;refine KJ.lsSome (a:=za) (c:=zc) (m:=2) xS hpos (fun g9 hg9=>?_);subst hg9)|(refine zAc xE cG xP rfl (fun _=>?_)))|(refine zAn ?_;first|refine zAa (zCb rC_ok hL rfl rfl xS hoff hp) ?_|refine zAa (Ev_loadLs ac_ok rfl xS rfl hoff2 hQf) ?_|refine zAa (Ev_loadLs kq_ok rfl xS rfl (by rfl) hq0) ?_|refine zAa (Ev_loadLsF (j:=0) kq_ok rfl xS rfl (by rfl) hq1 rfl) ?_|refine zAa (Ev_loadLsF (j:=2) kq_ok rfl xS rfl (by rfl) hq1 rfl) ?_)|(refine zBb ?_;refine zAa (zBc xV xW) ?_)|(refine zAw ?_;first|refine zAa (zAg (r:=((f+1:Nat):Int)) rfl rfl (by omega) (by omega)) ?_|refine zAa (zAg (r:=((j+1:Nat):Int)) rfl rfl (by omega) (by omega)) ?_)|(refine zAx ?_;first|refine zAa (zBk (q:=false) rfl rfl rfl) ?_|refine zAa (Ev_neqSt rfl rfl hself rfl) ?_|refine zAa (Ev_neqSt rfl rfl heq rfl) ?_)|(refine zAm ?_;refine zAa (zAe rfl rfl ql) ?_)|(refine zCh ?_;refine zAa (zBf rfl rfl qge) ?_)|refine xst ?_|(refine xsa ?_;intro _)|(refine xsb ?_ ?_ <;>intro _<;>try (exfalso;omega))|refine xsc ?_|(refine zAb (id:=31) plUFZ0 (by kernel_rfl) (by kernel_rfl) ?_)|(refine zAb (id:=41) plUFZ1 (by kernel_rfl) (by kernel_rfl) ?_)|(refine zAb (id:=43) plUFZ2 (by kernel_rfl) (by kernel_rfl) ?_)|refine zAj ?_ ?_|refine zAi rfl rfl rfl rfl rfl ?_ ?_|refine zAf ?_ ?_|exact Rech.nil|fail)
      all_goals refine zAu ⟨(j+1,f+1),hlt,more ac hacc3⟩ (by show r.length-(j+1)<r.length-j;omega) xB (xN)
 ·exact KJ.absurdF xS
theorem tells15_law (hE:ErrsAt W F) (hN:NibAt W) (hg:gB≤W.heap.size) (a b:Option Addr) (c d:Nat) (l:Rows) (S:List COp) (hA:Lv W rC 2 noP a l) (hB:Lv W copC 9 noP b S) (X:Args15 l S) :
 Ct Tryz.prog W 8 [.slice a l.length c,.slice b S.length d] [] (fun _:Unit=>.bool true) (fun _=>[]):=(tells15_ct hE hN hg noP noP a b c d l S hA hB X).noPw2
end
end Go.Proofs.YtnbgcimalpdfoaaGreatDoor
