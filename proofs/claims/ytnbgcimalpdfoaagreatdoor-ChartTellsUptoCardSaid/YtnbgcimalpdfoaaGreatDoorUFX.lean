/-
  ChS3, ChS4, ChSP, ChS5, ChS6.
-/
import Derived.Test.YtnbgcimalpdfoaaGreatDoorUFL
import Derived.Test.YtnbgcimalpdfoaaGreatDoorUFP
set_option maxHeartbeats 64000000
namespace Go.Proofs.YtnbgcimalpdfoaaGreatDoor
open Go Go.RowKit
theorem ofR_lenT (l:Rows):∀ i,(ofR (l.take i)).length≤i
 |0=>by rw [List.take_zero];exact Nat.le_refl _
 |i+1=>by
  cases h:l[i]? with
  |none=>
   have hl:=List.getElem?_eq_none_iff.1 h
   have:=ofR_lenT l i
   rw [List.take_of_length_le (by omega)] at this ⊢
   omega
  |some p=>
   rw [ofR_next h]
   have:=ofR_lenT l i
   have:=putR_len (ofR (l.take i)) p.1 p.2
   omega
section
variable {W:World} {F:Nat→Addr}
instance fn_keyed15:FnIs Tryz.prog 33:=⟨by kernel_rfl⟩
theorem keyed15_ct (A:SP) (a:Option Addr) (c:Nat) (l:Rows) (hA:Lv W rC 2 A a l) (h1:l.length≤4611686018427387904) :
 Ct Tryz.prog W 33 [.slice a l.length c] [A] (fun _:Unit=>.bool (l.all fun p=>Op.bytesLess p.1 [255])) (fun _=>[A]):=by
 obtain ⟨V,hV⟩:∃ V,V=l.all fun p=>Op.bytesLess p.1 [255]:=⟨_,rfl⟩
 rw [← hV]
 refine Ct.enter Tryz.func33 rfl Tryz.ntmps33 (by simp) (fun R=>?_)
 repeat' (first|refine xst ?_|(refine xsa ?_;intro _)|(refine xsb ?_ ?_ <;>intro _<;>try (exfalso;omega))|refine xsc ?_|fail)
 refine zBm (fun i:{i:Nat//i≤l.length∧((l.take i).all fun p=>Op.bytesLess p.1 [255])=true}=>[(5,.slice a l.length c),(6,.int .i64 (l.length:Nat)),(7,.int .i64 (i.1:Nat))])
  (fun _=>[A]++R) (fun i=>l.length-i.1) ⟨0,Nat.zero_le _,rfl⟩ xB (xN) (fun ⟨i,hi,ht⟩=>?_)
 dsimp only at hi ht ⊢
 by_cases hlt:i<l.length
 rotate_left
 ·have ql:decide ((i:Int)<(l.length:Nat))=false:=decide_eq_false (by omega)
  rw [List.take_of_length_le (by omega)] at ht
  rw [hV,ht]
  repeat' (first|(refine zAm ?_;refine zAa (zAe rfl rfl ql) ?_)|refine xst ?_|(refine xsa ?_;intro _)|(refine xsb ?_ ?_ <;>intro _<;>try (exfalso;omega))|refine xsc ?_|fail)
  all_goals (exact xdn ())
 have ql:decide ((i:Int)<(l.length:Nat))=true:=decide_eq_true (by omega)
 obtain ⟨x,hx⟩:∃ s,l[i]? = some s:=⟨_,List.getElem?_eq_getElem hlt⟩
 refine KJ.lvSome hA xS (by omega) (fun ba oa hab=>?_)
 subst hab
 have ho1:oa+Int.toNat (i:Int)*2=oa+i*2:=by rw [Int.toNat_natCast]
 cases hb:Op.bytesLess x.1 [255] with
 |true=>
  have hnx:((l.take (i+1)).all fun p=>Op.bytesLess p.1 [255])=true:=by rw [List.take_add_one,hx,List.all_append,ht];simp [hb]
  have qg:(!Op.bytesLess x.1 [255])=false:=by rw [hb];rfl
  repeat' (first|(refine zBd ?_;refine zAz rfl (fun g=>?_))|(refine zAn ?_;refine zAa (zCb rC_ok hA rfl rfl xS ho1 hx) ?_)|(refine zAw ?_;refine zAa (zAg (r:=((i+1:Nat):Int)) rfl rfl (by omega) (by omega)) ?_)|(refine zAm ?_;refine zAa (zAe rfl rfl ql) ?_)|(refine zCh ?_;refine zAa (Ev_geqS_q rfl rfl qg) ?_)|refine xst ?_|(refine xsa ?_;intro _)|(refine xsb ?_ ?_ <;>intro _<;>try (exfalso;omega))|refine xsc ?_|fail)
  all_goals refine zAu ⟨i+1,hlt,hnx⟩ (by show l.length-(i+1)<l.length-i;omega) xB (xN)
 |false=>
  have hv:V=false:=by
   rw [hV,List.all_eq_false]
   exact ⟨x,List.mem_of_getElem? hx,by rw [hb];decide⟩
  rw [hv]
  have qg:(!Op.bytesLess x.1 [255])=true:=by rw [hb];rfl
  repeat' (first|(refine zBd ?_;refine zAz rfl (fun g=>?_))|(refine zAn ?_;refine zAa (zCb rC_ok hA rfl rfl xS ho1 hx) ?_)|(refine zAm ?_;refine zAa (zAe rfl rfl ql) ?_)|(refine zCh ?_;refine zAa (Ev_geqS_q rfl rfl qg) ?_)|refine xst ?_|(refine xsa ?_;intro _)|(refine xsb ?_ ?_ <;>intro _<;>try (exfalso;omega))|refine xsc ?_|fail)
  all_goals (exact xdn ())
theorem begin15_ct (hE:ErrsAt W F) (hN:NibAt W) (hg:gB≤W.heap.size) (A:SP) (a:Option Addr) (c:Nat) (l:Rows) (hA:Lv W rC 2 A a l) (hl:l.length≤1000000000) :
 Ct Tryz.prog W 34 [.slice a l.length c] [A] (fun t:Nat=>.pointer (some ⟨t,0,none⟩)) (fun t=>[A,TxQ t (ofR l) false l.length]):=by
 have cn:Ct Tryz.prog W 54 [.int .i64 64] [] (fun p:Nat=>.tuple #[.pointer (some ⟨p,0,none⟩),.nilIface]) (fun p=>[DiskP p (Dsk.blank 64)]):=new_ct 64 (by omega) (by omega) hg
 refine Ct.enter Tryz.func34 rfl Tryz.ntmps34 (by simp) (fun R=>?_)
 repeat' (first|(refine zAd ?_;refine zAc xE cn xP rfl (fun d=>?_);refine hold ?_)|refine xst ?_|(refine xsa ?_;intro _)|(refine xsb ?_ ?_ <;>intro _<;>try (exfalso;omega))|refine xsc ?_|fail)
 all_goals refine Hold.mk ?_
 obtain ⟨D1,D2,c1,c2,c3⟩:=txnew_ct (W:=W) hE.all hE.on hN d 64 (by omega) (by omega)
 repeat' (first|(refine zAd ?_;first|(refine zAc xE (c3 _ _ _) xP rfl (fun t=>?_))|(refine zAc xE c2 xP rfl (fun x=>?_);obtain ⟨s,q,g⟩:=x)|(refine zAc xE c1 xP rfl (fun _=>?_)))|refine xst ?_|(refine xsa ?_;intro _)|(refine xsb ?_ ?_ <;>intro _<;>try (exfalso;omega))|refine xsc ?_|fail)
 refine zBm (fun i:{i:Nat//i≤l.length}=>[(6,.pointer (some ⟨t,0,none⟩)),(39,.slice a l.length c),(40,.int .i64 (l.length:Nat)),(41,.int .i64 (i.1:Nat))])
  (fun i=>[A,TxQ t (ofR (l.take i.1)) false i.1]++R) (fun i=>l.length-i.1) ⟨0,Nat.zero_le _⟩ xB (xN) (fun ⟨i,hi⟩=>?_)
 dsimp only
 by_cases hlt:i<l.length
 rotate_left
 ·have ql:decide ((i:Int)<(l.length:Nat))=false:=decide_eq_false (by omega)
  obtain rfl:i=l.length:=by omega
  rw [List.take_length]
  repeat' (first|(refine zAm ?_;refine zAa (zAe rfl rfl ql) ?_)|refine xst ?_|(refine xsa ?_;intro _)|(refine xsb ?_ ?_ <;>intro _<;>try (exfalso;omega))|refine xsc ?_|fail)
  all_goals (exact xdn t)
 have ql:decide ((i:Int)<(l.length:Nat))=true:=decide_eq_true (by omega)
 obtain ⟨x,hx⟩:∃ s,l[i]? = some s:=⟨_,List.getElem?_eq_getElem hlt⟩
 have hol:=ofR_lenT l i
 have cp:=txputQ (W:=W) (t:=t) (m:=i) (r:=ofR (l.take i)) x.1 x.2 (by omega) (by omega)
 rw [← ofR_next hx] at cp
 refine KJ.lvSome hA xS (by omega) (fun ba oa hab=>?_)
 subst hab
 have ho1:oa+Int.toNat (i:Int)*2=oa+i*2:=by rw [Int.toNat_natCast]
 repeat' (first|(refine zBd ?_;refine zAz rfl (fun g=>?_))|(refine zAd ?_;refine zAc xE cp xP rfl (fun _=>?_))|(refine zAn ?_;refine zAa (zCb rC_ok hA rfl rfl xS ho1 hx) ?_)|(refine zAw ?_;refine zAa (zAg (r:=((i+1:Nat):Int)) rfl rfl (by omega) (by omega)) ?_)|(refine zAm ?_;refine zAa (zAe rfl rfl ql) ?_)|refine xst ?_|(refine xsa ?_;intro _)|(refine xsb ?_ ?_ <;>intro _<;>try (exfalso;omega))|refine xsc ?_|fail)
 all_goals refine zAu ⟨i+1,hlt⟩ (by show l.length-(i+1)<l.length-i;omega) xB (xN)
end
end Go.Proofs.YtnbgcimalpdfoaaGreatDoor
namespace Go.Proofs.YtnbgcimalpdfoaaGreatDoor
open Go Go.RowKit
structure COp where
 kind:Int
 ac:Acct
 on:Bool
 row:List UInt8
def copC (o:COp):List Value:=[.int .i64 o.kind,strV o.ac.id,strV o.ac.cur,.int .i64 o.ac.kind,.bool o.ac.frozen,.int .i64 o.ac.bal,.int .i64 o.ac.held,.bool o.on,strV o.row]
theorem cop_ok:EncOk copC 9:=⟨fun _=>rfl,fun x=>by unfold copC;exact xO,by omega⟩
def sumR (l:Rows):Nat:=(l.map fun p=>p.1.length+p.2.length).sum
def sumO (l:List COp):Nat:=(l.map fun o=>o.ac.id.length+o.row.length).sum
theorem sumR_next {l:Rows} {i:Nat} {p:List UInt8 × List UInt8} (h:l[i]? = some p):sumR (l.take (i+1))=sumR (l.take i)+(p.1.length+p.2.length):=by
 unfold sumR
 rw [List.take_add_one,h,List.map_append,List.sum_append]
 simp
theorem sumO_next {l:List COp} {i:Nat} {p:COp} (h:l[i]? = some p):sumO (l.take (i+1))=sumO (l.take i)+(p.ac.id.length+p.row.length):=by
 unfold sumO
 rw [List.take_add_one,h,List.map_append,List.sum_append]
 simp
theorem sumR_le (l:Rows) (i:Nat):sumR (l.take i)≤sumR l:=by
 have e:sumR l=sumR (l.take i)+sumR (l.drop i):=by
  unfold sumR
  rw [← List.sum_append,← List.map_append,List.take_append_drop]
 omega
theorem sumO_le (l:List COp) (i:Nat):sumO (l.take i)≤sumO l:=by
 have e:sumO l=sumO (l.take i)+sumO (l.drop i):=by
  unfold sumO
  rw [← List.sum_append,← List.map_append,List.take_append_drop]
 omega
theorem sumR_mem {l:Rows} {p:List UInt8 × List UInt8} (h:p ∈ l):p.1.length+p.2.length≤sumR l:=by
 obtain ⟨i,hi,he⟩:=List.mem_iff_getElem.1 h
 have h1:=sumR_next (l:=l) (i:=i) (p:=p) (by rw [List.getElem?_eq_getElem hi,he])
 have h2:=sumR_le l (i+1)
 omega
theorem sumO_mem {l:List COp} {o:COp} (h:o ∈ l):o.ac.id.length+o.row.length≤sumO l:=by
 obtain ⟨i,hi,he⟩:=List.mem_iff_getElem.1 h
 have h1:=sumO_next (l:=l) (i:=i) (p:=o) (by rw [List.getElem?_eq_getElem hi,he])
 have h2:=sumO_le l (i+1)
 omega
def fewB (l:Rows) (S:List COp):Bool:=decide (8*S.length+sumR l+sumO S<65536)
section
variable {W:World}
instance fn_few15:FnIs Tryz.prog 32:=⟨by kernel_rfl⟩
set_option maxRecDepth 100000 in
theorem few15_ct (A B:SP) (a b:Option Addr) (c d:Nat) (l:Rows) (S:List COp) (hA:Lv W rC 2 A a l) (hB:Lv W copC 9 B b S) (h1:l.length≤1000000000) (h2:S.length≤1000000000) (h3:sumR l≤1000000000000000) (h4:sumO S≤1000000000000000) :
 Ct Tryz.prog W 32 [.slice a l.length c,.slice b S.length d] [A,B] (fun _:Unit=>.bool (fewB l S)) (fun _=>[A,B]):=by
 refine Ct.enter Tryz.func32 rfl Tryz.ntmps32 (by simp) (fun R=>?_)
 repeat' (first|(refine ek_mul ?_;refine zAa (Ev_mulI_v (r:=((8*S.length:Nat):Int)) rfl rfl (by omega) (by omega)) ?_)|refine xst ?_|(refine xsa ?_;intro _)|(refine xsb ?_ ?_ <;>intro _<;>try (exfalso;omega))|refine xsc ?_|fail)
 refine zBm (fun i:{i:Nat//i≤l.length}=>[(1,.slice b S.length d),(5,.int .i64 (8*S.length+sumR (l.take i.1):Nat)),(13,.slice a l.length c),(14,.int .i64 (l.length:Nat)),(15,.int .i64 (i.1:Nat))])
  (fun _=>[A,B]++R) (fun i=>l.length-i.1) ⟨0,Nat.zero_le _⟩ xB (xN) (fun ⟨i,hi⟩=>?_)
 dsimp only
 have hsi:=sumR_le l i
 by_cases hlt:i<l.length
 ·have ql:decide ((i:Int)<(l.length:Nat))=true:=decide_eq_true (by omega)
  obtain ⟨x,hx⟩:∃ s,l[i]? = some s:=⟨_,List.getElem?_eq_getElem hlt⟩
  have hnx:=sumR_next hx
  have hsn:=sumR_le l (i+1)
  refine KJ.lvSome hA xS (by omega) (fun ba oa hab=>?_)
  subst hab
  have ho1:oa+Int.toNat (i:Int)*2=oa+i*2:=by rw [Int.toNat_natCast]
  repeat' (first|(refine zBd ?_;refine zAz rfl (fun g=>?_))|(refine zAn ?_;refine zAa (zCb rC_ok hA rfl rfl xS ho1 hx) ?_)|(refine zAw ?_;first|refine zAa (zAg (r:=((i+1:Nat):Int)) rfl rfl (by omega) (by omega)) ?_|refine zAa (zAg (r:=((x.1.length+x.2.length:Nat):Int)) rfl rfl (by omega) (by omega)) ?_|refine zAa (zAg (r:=((8*S.length+sumR (l.take (i+1)):Nat):Int)) rfl rfl (by omega) (by omega)) ?_)|(refine zAm ?_;refine zAa (zAe rfl rfl ql) ?_)|refine xst ?_|(refine xsa ?_;intro _)|(refine xsb ?_ ?_ <;>intro _<;>try (exfalso;omega))|refine xsc ?_|fail)
  all_goals refine zAu ⟨i+1,hlt⟩ (by show l.length-(i+1)<l.length-i;omega) xB (xN)
 have ql:decide ((i:Int)<(l.length:Nat))=false:=decide_eq_false (by omega)
 obtain rfl:i=l.length:=by omega
 rw [List.take_length]
 repeat' (first|(refine zAm ?_;refine zAa (zAe rfl rfl ql) ?_)|refine xst ?_|(refine xsa ?_;intro _)|(refine xsb ?_ ?_ <;>intro _<;>try (exfalso;omega))|refine xsc ?_|fail)
 refine zBm (fun i:{i:Nat//i≤S.length}=>[(5,.int .i64 (8*S.length+sumR l+sumO (S.take i.1):Nat)),(29,.slice b S.length d),(30,.int .i64 (S.length:Nat)),(31,.int .i64 (i.1:Nat))])
  (fun _=>[A,B]++R) (fun i=>S.length-i.1) ⟨0,Nat.zero_le _⟩ xB (xN) (fun ⟨i,hi2⟩=>?_)
 dsimp only
 have hso:=sumO_le S i
 by_cases hlt2:i<S.length
 ·have ql:decide ((i:Int)<(S.length:Nat))=true:=decide_eq_true (by omega)
  obtain ⟨x,hx⟩:∃ s,S[i]? = some s:=⟨_,List.getElem?_eq_getElem hlt2⟩
  have hnx:=sumO_next hx
  have hsn:=sumO_le S (i+1)
  refine KJ.lvSome hB xS (by omega) (fun ba oa hab=>?_)
  subst hab
  have ho1:oa+Int.toNat (i:Int)*9=oa+i*9:=by rw [Int.toNat_natCast]
  repeat' (first|(refine zBd ?_;refine zAz rfl (fun g=>?_))|(refine zAn ?_;refine zAa (zCb cop_ok hB rfl rfl xS ho1 hx) ?_)|(refine zAw ?_;first|refine zAa (zAg (r:=((i+1:Nat):Int)) rfl rfl (by omega) (by omega)) ?_|refine zAa (zAg (r:=((x.ac.id.length+x.row.length:Nat):Int)) rfl rfl (by omega) (by omega)) ?_|refine zAa (zAg (r:=((8*S.length+sumR l+sumO (S.take (i+1)):Nat):Int)) rfl rfl (by omega) (by omega)) ?_)|(refine zAm ?_;refine zAa (zAe rfl rfl ql) ?_)|refine xst ?_|(refine xsa ?_;intro _)|(refine xsb ?_ ?_ <;>intro _<;>try (exfalso;omega))|refine xsc ?_|fail)
  all_goals refine zAu ⟨i+1,hlt2⟩ (by show S.length-(i+1)<S.length-i;omega) xB (xN)
 have ql2:decide ((i:Int)<(S.length:Nat))=false:=decide_eq_false (by omega)
 obtain rfl:i=S.length:=by omega
 rw [List.take_length]
 obtain ⟨T,hT⟩:∃ T:Nat,8*S.length+sumR l+sumO S=T:=⟨_,rfl⟩
 have qf:decide ((T:Int)<65536)=fewB l S:=by unfold fewB;rw [hT];exact decide_eq_decide.2 (by omega)
 rw [hT]
 repeat' (first|(refine at_seq_region (id:=12) ?_;refine hold ?_)|(refine zAm ?_;refine zAa (zAe rfl rfl ql2) ?_)|refine xst ?_|(refine xsa ?_;intro _)|(refine xsb ?_ ?_ <;>intro _<;>try (exfalso;omega))|refine xsc ?_|fail)
 refine Hold.mk ?_
 repeat' (first|(refine zAm ?_;refine zAa (zAe rfl rfl qf) ?_)|refine xst ?_|(refine xsa ?_;intro _)|(refine xsb ?_ ?_ <;>intro _<;>try (exfalso;omega))|refine xsc ?_|fail)
 all_goals (exact xdn ())
end
end Go.Proofs.YtnbgcimalpdfoaaGreatDoor
namespace Go.Proofs.YtnbgcimalpdfoaaGreatDoor
open Go Go.RowKit
def stepR (r:Rows) (o:COp):Rows:=
 if o.kind=0 then foundR r o.ac.cur else if o.kind=1 then openR r o.ac.id o.ac.cur else if o.kind=3 then setR r o.ac else if o.kind=4 then freezeR r o.ac.id o.on
 else if o.kind=5 then closeR r o.ac.id else if o.kind=7 then putR r (aKey o.ac.id) o.row else r
structure ChI (n:Nat) (r:Rows):Prop where
 ris:RisR r
 len:r.length≤n
 key:∀ p ∈ r,p.1.length≤2000000∧p.2.length≤9223372036854775000∧Op.bytesLess p.1 ffB=true
theorem mem_putR {r:Rows} {k v:List UInt8} {p:List UInt8 × List UInt8} (h:p ∈ putR r k v):p=(k,v)∨p ∈ r:=by
 unfold putR at h
 split at h
 ·obtain ⟨q,hq,he⟩:=List.mem_map.1 h
  split at he
  ·exact .inl he.symm
  ·exact .inr (he ▸ hq)
 ·exact mem_insB.1 h
theorem ChI.up {n m:Nat} {r:Rows} (h:ChI n r) (hm:n≤m):ChI m r:=⟨h.ris,Nat.le_trans h.len hm,h.key⟩
theorem ChI.put {n:Nat} {r:Rows} (h:ChI n r) {k v:List UInt8} (h1:k.length≤2000000) (h2:v.length≤9223372036854775000) (h3:Op.bytesLess k ffB=true):ChI (n+1) (putR r k v):=
 ⟨putR_ris h.ris _ _,Nat.le_trans (putR_len r k v) (Nat.succ_le_succ h.len),fun p hp=>by
  rcases mem_putR hp with rfl|hp
  ·exact ⟨h1,h2,h3⟩
  ·exact h.key p hp⟩
theorem ChI.del {n:Nat} {r:Rows} (h:ChI n r) (k:List UInt8):ChI n (mdel r k):=
 ⟨mdel_ris h.ris k,Nat.le_trans (List.length_filter_le _ _) h.len,fun p hp=>h.key p (List.mem_filter.1 hp).1⟩
theorem aKey_len (id:List UInt8):(aKey id).length≤2*id.length+10:=by
 unfold aKey keyT
 have:=esc_len id
 have:=esc_len [97]
 simp only [List.length_append,List.length_cons,List.length_nil] at *
 omega
theorem aKey_ff (id:List UInt8):Op.bytesLess (aKey id) ffB=true:=by
 unfold aKey keyT
 rfl
theorem ChI.acc {n:Nat} {r:Rows} (h:ChI n r) {id v:List UInt8} (h1:id.length≤900000) (h2:v.length≤9223372036854775000):ChI (n+1) (putR r (aKey id) v):=
 h.put (by have:=aKey_len id;omega) h2 (aKey_ff id)
theorem k4_len:∀ k,(kinds4.getD k []).length≤100
 |0=>by decide
 |1=>by decide
 |2=>by decide
 |3=>by decide
 |k+4=>by show ([]:List UInt8).length≤100;decide
theorem ChI.foundTo {n:Nat} {r:Rows} (h:ChI n r) {c:List UInt8} (hc:codeB c=true):∀ k,ChI (n+k) (foundTo r c k)
 |0=>h
 |k+1=>(ChI.foundTo h hc k).acc (by have:=k4_len k;have:=codeB_len hc;rw [List.length_append];omega) (by rw [rowA_len (codeB_len hc)];omega)
theorem ChI.step {n:Nat} {r:Rows} (h:ChI n r) {o:COp} (h1:o.ac.id.length≤900000) (h2:o.row.length≤9223372036854775000):ChI (n+4) (stepR r o):=by
 unfold stepR
 split
 ·unfold foundR
  split
  ·rename_i he
   refine ChI.foundTo h ?_ 4
   cases hc:codeB o.ac.cur with
   |true=>rfl
   |false=>unfold foundE at he;rw [hc] at he;cases he
  ·exact h.up (by omega)
 split
 ·unfold openR
  split
  ·rename_i he
   have hc:codeB o.ac.cur=true:=by
    cases hc:codeB o.ac.cur with
    |true=>rfl
    |false=>
     unfold openE at he
     rw [hc] at he
     split at he <;> cases he
   exact (h.acc h1 (by rw [rowA_len (a:=newA o.ac.id o.ac.cur) (codeB_len hc)];omega)).up (by omega)
  ·exact h.up (by omega)
 split
 ·unfold setR
  split
  ·rename_i he
   have hg:goodA o.ac=true:=by
    cases hc:goodA o.ac with
    |true=>rfl
    |false=>unfold setE at he;rw [hc] at he;cases he
   exact (h.acc h1 (by rw [rowA_len (goodA_in hg).1];omega)).up (by omega)
  ·exact h.up (by omega)
 split
 ·unfold freezeR
  split
  ·exact h.up (by omega)
  ·rename_i b hb
   split
   ·exact h.up (by omega)
   ·obtain ⟨-,-,-,-,hg,-⟩:=custO_some hb
    exact (h.acc h1 (by rw [rowA_len (a:={ b with frozen:=o.on }) (goodA_in hg).1];omega)).up (by omega)
 split
 ·unfold closeR
  split
  ·exact (h.del _).up (by omega)
  ·exact h.up (by omega)
 split
 ·exact (h.acc h1 h2).up (by omega)
 ·exact h.up (by omega)
theorem ChI.lk {n:Nat} {r:Rows} (h:ChI n r) {k s:List UInt8} (e:lk r k=some s):s.length≤9223372036854775000:=(h.key _ (lk_mem e)).2.1
theorem keyed_ff {p:List UInt8} (h:Op.bytesLess p [255]=true):Op.bytesLess p ffB=true:=by
 match p,h with
 |[],_=>rfl
 |b::p,h=>
  simp only [Op.bytesLess,Bool.or_eq_true,decide_eq_true_eq,Bool.and_eq_true,beq_iff_eq] at h ⊢
  rcases h with h|⟨-,h⟩
  ·exact .inl h
  ·cases p <;> simp at h
theorem ofR_mem {l:Rows} {p:List UInt8 × List UInt8} (h:p ∈ ofR l):p ∈ l:=by
 have key:∀ (l r:Rows),p ∈ l.foldl (fun r p=>putR r p.1 p.2) r→p ∈ r∨p ∈ l:=fun l=>by
  induction l with
  |nil=>intro r h;exact .inl h
  |cons q l ih=>
   intro r h
   rcases ih _ h with h|h
   ·rcases mem_putR h with rfl|h
    ·exact .inr (List.mem_cons_self ..)
    ·exact .inl h
   ·exact .inr (List.mem_cons_of_mem _ h)
 rcases key l [] h with h|h
 ·cases h
 ·exact h
theorem few_in {l:Rows} {S:List COp} (h:fewB l S=true):8*S.length+sumR l+sumO S<65536:=of_decide_eq_true h
theorem ChI.first {l:Rows} {S:List COp} (h:fewB l S=true) (hk:(l.all fun p=>Op.bytesLess p.1 [255])=true):ChI l.length (ofR l):=
 ⟨ofR_ris l,by have:=ofR_lenT l l.length;rwa [List.take_length] at this,fun p hp=>by
  have hm:=ofR_mem hp
  have:=sumR_mem hm
  have:=few_in h
  exact ⟨by omega,by omega,keyed_ff (List.all_eq_true.1 hk p hm)⟩⟩
end Go.Proofs.YtnbgcimalpdfoaaGreatDoor
namespace Go.Proofs.YtnbgcimalpdfoaaGreatDoor
open Go Go.RowKit
section
variable {W:World} {F:Nat→Addr} {t m n:Nat} {r:Rows} {a:Option Addr} {c:Nat} {o:COp}
theorem Ct.upM {f:FuncId} {args:List Value} {L:List SP} {X:Type} {v:X→Value} {r':Rows} {G:X→List SP} {m m':Nat} (h:Ct Tryz.prog W f args L v (fun x=>TxQ t r' false m::G x)) (hm:m≤m'):Ct Tryz.prog W f args L v (fun x=>TxQ t r' false m'::G x):=
 h.to _root_.id (fun _=>rfl) (fun _ _ g q=>TxQ.up hm g q)
end
end Go.Proofs.YtnbgcimalpdfoaaGreatDoor
namespace Go.Proofs.YtnbgcimalpdfoaaGreatDoor
open Go Go.RowKit
theorem sumR_bound {l:Rows} {n:Nat} (h:∀ p ∈ l,p.1.length≤n∧p.2.length≤n):sumR l≤l.length*(2*n):=by
 induction l with
 |nil=>exact Nat.zero_le _
 |cons p l ih=>
  have h1:=h p (List.mem_cons_self ..)
  have h2:=ih fun q hq=>h q (List.mem_cons_of_mem _ hq)
  have e:sumR (p::l)=p.1.length+p.2.length+sumR l:=rfl
  rw [e,List.length_cons,Nat.succ_mul]
  omega
theorem sumO_bound {l:List COp} {n:Nat} (h:∀ o ∈ l,o.ac.id.length≤n∧o.row.length≤n):sumO l≤l.length*(2*n):=by
 induction l with
 |nil=>exact Nat.zero_le _
 |cons p l ih=>
  have h1:=h p (List.mem_cons_self ..)
  have h2:=ih fun q hq=>h q (List.mem_cons_of_mem _ hq)
  have e:sumO (p::l)=p.ac.id.length+p.row.length+sumO l:=rfl
  rw [e,List.length_cons,Nat.succ_mul]
  omega
structure Args15 (l:Rows) (S:List COp):Prop where
 ll:l.length≤1048576
 ls:S.length≤1048576
 row:∀ p ∈ l,p.1.length≤1048576∧p.2.length≤1048576
 op:∀ o ∈ S,o.ac.id.length≤1048576∧o.row.length≤1048576∧o.ac.cur.length≤1048576∧-9223372036854775808≤o.ac.bal∧o.ac.bal≤9223372036854775807
theorem Args15.sums {l:Rows} {S:List COp} (h:Args15 l S):sumR l≤1000000000000000∧sumO S≤1000000000000000:=by
 have h1:=sumR_bound h.row
 have h2:=sumO_bound fun o ho=>⟨(h.op o ho).1,(h.op o ho).2.1⟩
 have h3:=Nat.mul_le_mul_right (2*1048576) h.ll
 have h4:=Nat.mul_le_mul_right (2*1048576) h.ls
 exact ⟨by omega,by omega⟩
section
variable {W:World} {F:Nat→Addr}
theorem Ct.noPw2 {P:Program} {f:FuncId} {args:List Value} {X:Type} {r:X→Value} (h:Ct P W f args [noP,noP] r (fun _=>[noP,noP])):Ct P W f args [] r (fun _=>[]):=
 ⟨fun R w s=>(h.go R w ((s.mono noP_star).mono noP_star)).mono fun _ _ ⟨x,he,hs⟩=>⟨x,he,hs.right (A:=[noP,noP])⟩⟩
end
end Go.Proofs.YtnbgcimalpdfoaaGreatDoor
