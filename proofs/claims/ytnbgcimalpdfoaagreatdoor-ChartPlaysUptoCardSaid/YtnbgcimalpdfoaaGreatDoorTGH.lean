/-
  ChS3, ChS4, ChSP, ChS5, ChS6.
-/
import Derived.Test.YtnbgcimalpdfoaaGreatDoorTFX
import Derived.Test.YtnbgcimalpdfoaaGreatDoorTGC
set_option maxHeartbeats 64000000
namespace Go.Proofs.YtnbgcimalpdfoaaGreatDoor
open Go Go.RowKit
abbrev plTGH0:Pl:=(.op 0 (.op 1 (.op 2 (.op 3 (.op 4 (.op 5 (.op 6 (.op 7 (.op 8 .nil)))))))))
theorem ofR_lenT (l:Rows):∀ i,(ofR (l.take i)).length≤i
 |0=>by rw [List.take_zero];exact Nat.le_refl _
 |i+1=>by
  cases h:l[i]? with
  |none=>
   have hl:=List.getElem?_eq_none_iff.1 h
   have:=ofR_lenT l i
   rw [List.take_of_length_le (by omega)] at this ⊢
   omega
  |some p=>
   rw [ofR_next h]
   have:=ofR_lenT l i
   have:=putR_len (ofR (l.take i)) p.1 p.2
   omega
section
variable {W:World} {F:Nat→Addr}
instance fn_keyed15:FnIs Tryz.prog 33:=⟨by kernel_rfl⟩
theorem same15_ct (A B:SP) (a b:Option Addr) (c d:Nat) (l:Rows) (hA:Lv W rC 2 A a l) (hB:Lv W rC 2 B b l) (h1:l.length≤4611686018427387904) :
 Ct Tryz.prog W 38 [.slice a l.length c,.slice b l.length d] [A,B] (fun _:Unit=>.bool true) (fun _=>[A,B]):=by
 have q:((l.length:Nat):Int)=(l.length:Nat):=rfl
 refine Ct.enter Tryz.func38 rfl Tryz.ntmps38 (by simp) (fun R=>?_)
 repeat' (first|(refine zBa ?_;refine zAa (Ev_neqI_f rfl rfl q) ?_)|refine xst ?_|(refine xsa ?_;intro _)|(refine xsb ?_ ?_ <;>intro _<;>try (exfalso;omega))|refine xsc ?_|(refine zAc (id:=6) plTGH0 (by kernel_rfl) (by kernel_rfl) ?_)|refine zAk ?_ ?_|refine zAj rfl rfl rfl rfl rfl ?_ ?_|refine zAg ?_ ?_|exact Rech.nil|fail)
 refine zBj (fun i:{i:Nat//i≤l.length}=>[(0,.slice a l.length c),(1,.slice b l.length d),(12,.int .i64 (l.length:Nat)),(13,.int .i64 (i.1:Nat))])
  (fun _=>[A,B]++R) (fun i=>l.length-i.1) ⟨0,Nat.zero_le _⟩ xB (xN) (fun ⟨i,hi⟩=>?_)
 dsimp only
 by_cases hlt:i<l.length
 rotate_left
 ·have ql:decide ((i:Int)<(l.length:Nat))=false:=decide_eq_false (by omega)
  repeat' (first|(refine zAi ?_;refine zAa (zAd rfl rfl ql) ?_)|refine xst ?_|(refine xsa ?_;intro _)|(refine xsb ?_ ?_ <;>intro _<;>try (exfalso;omega))|refine xsc ?_|(refine zAc (id:=6) plTGH0 (by kernel_rfl) (by kernel_rfl) ?_)|refine zAk ?_ ?_|refine zAj rfl rfl rfl rfl rfl ?_ ?_|refine zAg ?_ ?_|exact Rech.nil|fail)
  all_goals (exact xdn ())
 have ql:decide ((i:Int)<(l.length:Nat))=true:=decide_eq_true (by omega)
 obtain ⟨x,hx⟩:∃ s,l[i]? = some s:=⟨_,List.getElem?_eq_getElem hlt⟩
 refine KJ.lvSome hA xS (by omega) (fun ba oa hab=>?_)
 subst hab
 refine KJ.lvSome hB xS (by omega) (fun bb ob hab=>?_)
 subst hab
 have ho1:oa+Int.toNat (i:Int)*2=oa+i*2:=by rw [Int.toNat_natCast]
 have ho2:ob+Int.toNat (i:Int)*2=ob+i*2:=by rw [Int.toNat_natCast]
 have hq:(!decide (x=x))=false:=by simp
 repeat' (first|(refine zAq ?_;first|refine zAa (zBx rC_ok hA rfl rfl xS ho1 hx) ?_|refine zAa (zBx rC_ok hB rfl rfl xS ho2 hx) ?_)|(refine zAw ?_;refine zAa (zAh (r:=((i+1:Nat):Int)) rfl rfl (by omega) (by omega)) ?_)|(refine zBa ?_;refine zAa (Ev_neqSt rfl rfl (row_eqF x x Tryz.underlying89) hq) ?_)|(refine zAi ?_;refine zAa (zAd rfl rfl ql) ?_)|refine xst ?_|(refine xsa ?_;intro _)|(refine xsb ?_ ?_ <;>intro _<;>try (exfalso;omega))|refine xsc ?_|(refine zAc (id:=6) plTGH0 (by kernel_rfl) (by kernel_rfl) ?_)|refine zAk ?_ ?_|refine zAj rfl rfl rfl rfl rfl ?_ ?_|refine zAg ?_ ?_|exact Rech.nil|fail)
 all_goals refine zAt ⟨i+1,hlt⟩ (by show l.length-(i+1)<l.length-i;omega) xB (xN)
theorem keyed15_ct (A:SP) (a:Option Addr) (c:Nat) (l:Rows) (hA:Lv W rC 2 A a l) (h1:l.length≤4611686018427387904) :
 Ct Tryz.prog W 33 [.slice a l.length c] [A] (fun _:Unit=>.bool (l.all fun p=>Op.bytesLess p.1 [255])) (fun _=>[A]):=by
 obtain ⟨V,hV⟩:∃ V,V=l.all fun p=>Op.bytesLess p.1 [255]:=⟨_,rfl⟩
 rw [← hV]
 refine Ct.enter Tryz.func33 rfl Tryz.ntmps33 (by simp) (fun R=>?_)
 repeat' (first|refine xst ?_|(refine xsa ?_;intro _)|(refine xsb ?_ ?_ <;>intro _<;>try (exfalso;omega))|refine xsc ?_|fail)
 refine zBj (fun i:{i:Nat//i≤l.length∧((l.take i).all fun p=>Op.bytesLess p.1 [255])=true}=>[(5,.slice a l.length c),(6,.int .i64 (l.length:Nat)),(7,.int .i64 (i.1:Nat))])
  (fun _=>[A]++R) (fun i=>l.length-i.1) ⟨0,Nat.zero_le _,rfl⟩ xB (xN) (fun ⟨i,hi,ht⟩=>?_)
 dsimp only at hi ht ⊢
 by_cases hlt:i<l.length
 rotate_left
 ·have ql:decide ((i:Int)<(l.length:Nat))=false:=decide_eq_false (by omega)
  rw [List.take_of_length_le (by omega)] at ht
  rw [hV,ht]
  repeat' (first|(refine zAi ?_;refine zAa (zAd rfl rfl ql) ?_)|refine xst ?_|(refine xsa ?_;intro _)|(refine xsb ?_ ?_ <;>intro _<;>try (exfalso;omega))|refine xsc ?_|fail)
  all_goals (exact xdn ())
 have ql:decide ((i:Int)<(l.length:Nat))=true:=decide_eq_true (by omega)
 obtain ⟨x,hx⟩:∃ s,l[i]? = some s:=⟨_,List.getElem?_eq_getElem hlt⟩
 refine KJ.lvSome hA xS (by omega) (fun ba oa hab=>?_)
 subst hab
 have ho1:oa+Int.toNat (i:Int)*2=oa+i*2:=by rw [Int.toNat_natCast]
 cases hb:Op.bytesLess x.1 [255] with
 |true=>
  have hnx:((l.take (i+1)).all fun p=>Op.bytesLess p.1 [255])=true:=by rw [List.take_add_one,hx,List.all_append,ht];simp [hb]
  have qg:(!Op.bytesLess x.1 [255])=false:=by rw [hb];rfl
  repeat' (first|(refine zBg ?_;refine zBe rfl (fun g=>?_))|(refine zAq ?_;refine zAa (zBx rC_ok hA rfl rfl xS ho1 hx) ?_)|(refine zAw ?_;refine zAa (zAh (r:=((i+1:Nat):Int)) rfl rfl (by omega) (by omega)) ?_)|(refine zAi ?_;refine zAa (zAd rfl rfl ql) ?_)|(refine zBy ?_;refine zAa (Ev_geqS_q rfl rfl qg) ?_)|refine xst ?_|(refine xsa ?_;intro _)|(refine xsb ?_ ?_ <;>intro _<;>try (exfalso;omega))|refine xsc ?_|fail)
  all_goals refine zAt ⟨i+1,hlt,hnx⟩ (by show l.length-(i+1)<l.length-i;omega) xB (xN)
 |false=>
  have hv:V=false:=by
   rw [hV,List.all_eq_false]
   exact ⟨x,List.mem_of_getElem? hx,by rw [hb];decide⟩
  rw [hv]
  have qg:(!Op.bytesLess x.1 [255])=true:=by rw [hb];rfl
  repeat' (first|(refine zBg ?_;refine zBe rfl (fun g=>?_))|(refine zAq ?_;refine zAa (zBx rC_ok hA rfl rfl xS ho1 hx) ?_)|(refine zAi ?_;refine zAa (zAd rfl rfl ql) ?_)|(refine zBy ?_;refine zAa (Ev_geqS_q rfl rfl qg) ?_)|refine xst ?_|(refine xsa ?_;intro _)|(refine xsb ?_ ?_ <;>intro _<;>try (exfalso;omega))|refine xsc ?_|fail)
  all_goals (exact xdn ())
theorem begin15_ct (hE:ErrsAt W F) (hN:NibAt W) (hg:gB≤W.heap.size) (A:SP) (a:Option Addr) (c:Nat) (l:Rows) (hA:Lv W rC 2 A a l) (hl:l.length≤1000000000) :
 Ct Tryz.prog W 34 [.slice a l.length c] [A] (fun t:Nat=>.pointer (some ⟨t,0,none⟩)) (fun t=>[A,TxQ t (ofR l) false l.length]):=by
 have cn:Ct Tryz.prog W 54 [.int .i64 64] [] (fun p:Nat=>.tuple #[.pointer (some ⟨p,0,none⟩),.nilIface]) (fun p=>[DiskP p (Dsk.blank 64)]):=new_ct 64 (by omega) (by omega) hg
 refine Ct.enter Tryz.func34 rfl Tryz.ntmps34 (by simp) (fun R=>?_)
 repeat' (first|(refine zAe ?_;refine zAb xE cn xP rfl (fun d=>?_);refine hold ?_)|refine xst ?_|(refine xsa ?_;intro _)|(refine xsb ?_ ?_ <;>intro _<;>try (exfalso;omega))|refine xsc ?_|fail)
 all_goals refine Hold.mk ?_
 obtain ⟨D1,D2,c1,c2,c3⟩:=txnew_ct (W:=W) hE.all hE.on hN d 64 (by omega) (by omega)
 repeat' (first|(refine zAe ?_;first|(refine zAb xE (c3 _ _ _) xP rfl (fun t=>?_))|(refine zAb xE c2 xP rfl (fun x=>?_);obtain ⟨s,q,g⟩:=x)|(refine zAb xE c1 xP rfl (fun _=>?_)))|refine xst ?_|(refine xsa ?_;intro _)|(refine xsb ?_ ?_ <;>intro _<;>try (exfalso;omega))|refine xsc ?_|fail)
 refine zBj (fun i:{i:Nat//i≤l.length}=>[(6,.pointer (some ⟨t,0,none⟩)),(39,.slice a l.length c),(40,.int .i64 (l.length:Nat)),(41,.int .i64 (i.1:Nat))])
  (fun i=>[A,TxQ t (ofR (l.take i.1)) false i.1]++R) (fun i=>l.length-i.1) ⟨0,Nat.zero_le _⟩ xB (xN) (fun ⟨i,hi⟩=>?_)
 dsimp only
 by_cases hlt:i<l.length
 rotate_left
 ·have ql:decide ((i:Int)<(l.length:Nat))=false:=decide_eq_false (by omega)
  obtain rfl:i=l.length:=by omega
  rw [List.take_length]
  repeat' (first|(refine zAi ?_;refine zAa (zAd rfl rfl ql) ?_)|refine xst ?_|(refine xsa ?_;intro _)|(refine xsb ?_ ?_ <;>intro _<;>try (exfalso;omega))|refine xsc ?_|fail)
  all_goals (exact xdn t)
 have ql:decide ((i:Int)<(l.length:Nat))=true:=decide_eq_true (by omega)
 obtain ⟨x,hx⟩:∃ s,l[i]? = some s:=⟨_,List.getElem?_eq_getElem hlt⟩
 have hol:=ofR_lenT l i
 have cp:=txputQ (W:=W) (t:=t) (m:=i) (r:=ofR (l.take i)) x.1 x.2 (by omega) (by omega)
 rw [← ofR_next hx] at cp
 refine KJ.lvSome hA xS (by omega) (fun ba oa hab=>?_)
 subst hab
 have ho1:oa+Int.toNat (i:Int)*2=oa+i*2:=by rw [Int.toNat_natCast]
 repeat' (first|(refine zBg ?_;refine zBe rfl (fun g=>?_))|(refine zAe ?_;refine zAb xE cp xP rfl (fun _=>?_))|(refine zAq ?_;refine zAa (zBx rC_ok hA rfl rfl xS ho1 hx) ?_)|(refine zAw ?_;refine zAa (zAh (r:=((i+1:Nat):Int)) rfl rfl (by omega) (by omega)) ?_)|(refine zAi ?_;refine zAa (zAd rfl rfl ql) ?_)|refine xst ?_|(refine xsa ?_;intro _)|(refine xsb ?_ ?_ <;>intro _<;>try (exfalso;omega))|refine xsc ?_|fail)
 all_goals refine zAt ⟨i+1,hlt⟩ (by show l.length-(i+1)<l.length-i;omega) xB (xN)
end
end Go.Proofs.YtnbgcimalpdfoaaGreatDoor
namespace Go.Proofs.YtnbgcimalpdfoaaGreatDoor
open Go Go.RowKit
structure COp where
 kind:Int
 ac:Acct
 on:Bool
 row:List UInt8
def copC (o:COp):List Value:=[.int .i64 o.kind,strV o.ac.id,strV o.ac.cur,.int .i64 o.ac.kind,.bool o.ac.frozen,.int .i64 o.ac.bal,.int .i64 o.ac.held,.bool o.on,strV o.row]
theorem cop_ok:EncOk copC 9:=⟨fun _=>rfl,fun x=>by unfold copC;exact xO,by omega⟩
def sumR (l:Rows):Nat:=(l.map fun p=>p.1.length+p.2.length).sum
def sumO (l:List COp):Nat:=(l.map fun o=>o.ac.id.length+o.row.length).sum
theorem sumR_next {l:Rows} {i:Nat} {p:List UInt8 × List UInt8} (h:l[i]? = some p):sumR (l.take (i+1))=sumR (l.take i)+(p.1.length+p.2.length):=by
 unfold sumR
 rw [List.take_add_one,h,List.map_append,List.sum_append]
 simp
theorem sumO_next {l:List COp} {i:Nat} {p:COp} (h:l[i]? = some p):sumO (l.take (i+1))=sumO (l.take i)+(p.ac.id.length+p.row.length):=by
 unfold sumO
 rw [List.take_add_one,h,List.map_append,List.sum_append]
 simp
theorem sumR_le (l:Rows) (i:Nat):sumR (l.take i)≤sumR l:=by
 have e:sumR l=sumR (l.take i)+sumR (l.drop i):=by
  unfold sumR
  rw [← List.sum_append,← List.map_append,List.take_append_drop]
 omega
theorem sumO_le (l:List COp) (i:Nat):sumO (l.take i)≤sumO l:=by
 have e:sumO l=sumO (l.take i)+sumO (l.drop i):=by
  unfold sumO
  rw [← List.sum_append,← List.map_append,List.take_append_drop]
 omega
theorem sumR_mem {l:Rows} {p:List UInt8 × List UInt8} (h:p ∈ l):p.1.length+p.2.length≤sumR l:=by
 obtain ⟨i,hi,he⟩:=List.mem_iff_getElem.1 h
 have h1:=sumR_next (l:=l) (i:=i) (p:=p) (by rw [List.getElem?_eq_getElem hi,he])
 have h2:=sumR_le l (i+1)
 omega
theorem sumO_mem {l:List COp} {o:COp} (h:o ∈ l):o.ac.id.length+o.row.length≤sumO l:=by
 obtain ⟨i,hi,he⟩:=List.mem_iff_getElem.1 h
 have h1:=sumO_next (l:=l) (i:=i) (p:=o) (by rw [List.getElem?_eq_getElem hi,he])
 have h2:=sumO_le l (i+1)
 omega
def fewB (l:Rows) (S:List COp):Bool:=decide (8*S.length+sumR l+sumO S<65536)
section
variable {W:World}
instance fn_few15:FnIs Tryz.prog 32:=⟨by kernel_rfl⟩
set_option maxRecDepth 100000 in
theorem few15_ct (A B:SP) (a b:Option Addr) (c d:Nat) (l:Rows) (S:List COp) (hA:Lv W rC 2 A a l) (hB:Lv W copC 9 B b S) (h1:l.length≤1000000000) (h2:S.length≤1000000000) (h3:sumR l≤1000000000000000) (h4:sumO S≤1000000000000000) :
 Ct Tryz.prog W 32 [.slice a l.length c,.slice b S.length d] [A,B] (fun _:Unit=>.bool (fewB l S)) (fun _=>[A,B]):=by
 refine Ct.enter Tryz.func32 rfl Tryz.ntmps32 (by simp) (fun R=>?_)
 repeat' (first|(refine ek_mul ?_;refine zAa (Ev_mulI_v (r:=((8*S.length:Nat):Int)) rfl rfl (by omega) (by omega)) ?_)|refine xst ?_|(refine xsa ?_;intro _)|(refine xsb ?_ ?_ <;>intro _<;>try (exfalso;omega))|refine xsc ?_|fail)
 refine zBj (fun i:{i:Nat//i≤l.length}=>[(1,.slice b S.length d),(5,.int .i64 (8*S.length+sumR (l.take i.1):Nat)),(13,.slice a l.length c),(14,.int .i64 (l.length:Nat)),(15,.int .i64 (i.1:Nat))])
  (fun _=>[A,B]++R) (fun i=>l.length-i.1) ⟨0,Nat.zero_le _⟩ xB (xN) (fun ⟨i,hi⟩=>?_)
 dsimp only
 have hsi:=sumR_le l i
 by_cases hlt:i<l.length
 ·have ql:decide ((i:Int)<(l.length:Nat))=true:=decide_eq_true (by omega)
  obtain ⟨x,hx⟩:∃ s,l[i]? = some s:=⟨_,List.getElem?_eq_getElem hlt⟩
  have hnx:=sumR_next hx
  have hsn:=sumR_le l (i+1)
  refine KJ.lvSome hA xS (by omega) (fun ba oa hab=>?_)
  subst hab
  have ho1:oa+Int.toNat (i:Int)*2=oa+i*2:=by rw [Int.toNat_natCast]
  repeat' (first|(refine zBg ?_;refine zBe rfl (fun g=>?_))|(refine zAq ?_;refine zAa (zBx rC_ok hA rfl rfl xS ho1 hx) ?_)|(refine zAw ?_;first|refine zAa (zAh (r:=((i+1:Nat):Int)) rfl rfl (by omega) (by omega)) ?_|refine zAa (zAh (r:=((x.1.length+x.2.length:Nat):Int)) rfl rfl (by omega) (by omega)) ?_|refine zAa (zAh (r:=((8*S.length+sumR (l.take (i+1)):Nat):Int)) rfl rfl (by omega) (by omega)) ?_)|(refine zAi ?_;refine zAa (zAd rfl rfl ql) ?_)|refine xst ?_|(refine xsa ?_;intro _)|(refine xsb ?_ ?_ <;>intro _<;>try (exfalso;omega))|refine xsc ?_|fail)
  all_goals refine zAt ⟨i+1,hlt⟩ (by show l.length-(i+1)<l.length-i;omega) xB (xN)
 have ql:decide ((i:Int)<(l.length:Nat))=false:=decide_eq_false (by omega)
 obtain rfl:i=l.length:=by omega
 rw [List.take_length]
 repeat' (first|(refine zAi ?_;refine zAa (zAd rfl rfl ql) ?_)|refine xst ?_|(refine xsa ?_;intro _)|(refine xsb ?_ ?_ <;>intro _<;>try (exfalso;omega))|refine xsc ?_|fail)
 refine zBj (fun i:{i:Nat//i≤S.length}=>[(5,.int .i64 (8*S.length+sumR l+sumO (S.take i.1):Nat)),(29,.slice b S.length d),(30,.int .i64 (S.length:Nat)),(31,.int .i64 (i.1:Nat))])
  (fun _=>[A,B]++R) (fun i=>S.length-i.1) ⟨0,Nat.zero_le _⟩ xB (xN) (fun ⟨i,hi2⟩=>?_)
 dsimp only
 have hso:=sumO_le S i
 by_cases hlt2:i<S.length
 ·have ql:decide ((i:Int)<(S.length:Nat))=true:=decide_eq_true (by omega)
  obtain ⟨x,hx⟩:∃ s,S[i]? = some s:=⟨_,List.getElem?_eq_getElem hlt2⟩
  have hnx:=sumO_next hx
  have hsn:=sumO_le S (i+1)
  refine KJ.lvSome hB xS (by omega) (fun ba oa hab=>?_)
  subst hab
  have ho1:oa+Int.toNat (i:Int)*9=oa+i*9:=by rw [Int.toNat_natCast]
  repeat' (first|(refine zBg ?_;refine zBe rfl (fun g=>?_))|(refine zAq ?_;refine zAa (zBx cop_ok hB rfl rfl xS ho1 hx) ?_)|(refine zAw ?_;first|refine zAa (zAh (r:=((i+1:Nat):Int)) rfl rfl (by omega) (by omega)) ?_|refine zAa (zAh (r:=((x.ac.id.length+x.row.length:Nat):Int)) rfl rfl (by omega) (by omega)) ?_|refine zAa (zAh (r:=((8*S.length+sumR l+sumO (S.take (i+1)):Nat):Int)) rfl rfl (by omega) (by omega)) ?_)|(refine zAi ?_;refine zAa (zAd rfl rfl ql) ?_)|refine xst ?_|(refine xsa ?_;intro _)|(refine xsb ?_ ?_ <;>intro _<;>try (exfalso;omega))|refine xsc ?_|fail)
  all_goals refine zAt ⟨i+1,hlt2⟩ (by show S.length-(i+1)<S.length-i;omega) xB (xN)
 have ql2:decide ((i:Int)<(S.length:Nat))=false:=decide_eq_false (by omega)
 obtain rfl:i=S.length:=by omega
 rw [List.take_length]
 obtain ⟨T,hT⟩:∃ T:Nat,8*S.length+sumR l+sumO S=T:=⟨_,rfl⟩
 have qf:decide ((T:Int)<65536)=fewB l S:=by unfold fewB;rw [hT];exact decide_eq_decide.2 (by omega)
 rw [hT]
 repeat' (first|(refine at_seq_region (id:=12) ?_;refine hold ?_)|(refine zAi ?_;refine zAa (zAd rfl rfl ql2) ?_)|refine xst ?_|(refine xsa ?_;intro _)|(refine xsb ?_ ?_ <;>intro _<;>try (exfalso;omega))|refine xsc ?_|fail)
 refine Hold.mk ?_
 repeat' (first|(refine zAi ?_;refine zAa (zAd rfl rfl qf) ?_)|refine xst ?_|(refine xsa ?_;intro _)|(refine xsb ?_ ?_ <;>intro _<;>try (exfalso;omega))|refine xsc ?_|fail)
 all_goals (exact xdn ())
end
end Go.Proofs.YtnbgcimalpdfoaaGreatDoor
namespace Go.Proofs.YtnbgcimalpdfoaaGreatDoor
open Go Go.RowKit
def stepR (r:Rows) (o:COp):Rows:=
 if o.kind=0 then foundR r o.ac.cur else if o.kind=1 then openR r o.ac.id o.ac.cur else if o.kind=3 then setR r o.ac else if o.kind=4 then freezeR r o.ac.id o.on
 else if o.kind=5 then closeR r o.ac.id else if o.kind=7 then putR r (aKey o.ac.id) o.row else r
structure ChI (n:Nat) (r:Rows):Prop where
 ris:RisR r
 len:r.length≤n
 key:∀ p ∈ r,p.1.length≤2000000∧p.2.length≤9223372036854775000∧Op.bytesLess p.1 ffB=true
theorem mem_putR {r:Rows} {k v:List UInt8} {p:List UInt8 × List UInt8} (h:p ∈ putR r k v):p=(k,v)∨p ∈ r:=by
 unfold putR at h
 split at h
 ·obtain ⟨q,hq,he⟩:=List.mem_map.1 h
  split at he
  ·exact .inl he.symm
  ·exact .inr (he ▸ hq)
 ·exact mem_insB.1 h
theorem ChI.up {n m:Nat} {r:Rows} (h:ChI n r) (hm:n≤m):ChI m r:=⟨h.ris,Nat.le_trans h.len hm,h.key⟩
theorem ChI.put {n:Nat} {r:Rows} (h:ChI n r) {k v:List UInt8} (h1:k.length≤2000000) (h2:v.length≤9223372036854775000) (h3:Op.bytesLess k ffB=true):ChI (n+1) (putR r k v):=
 ⟨putR_ris h.ris _ _,Nat.le_trans (putR_len r k v) (Nat.succ_le_succ h.len),fun p hp=>by
  rcases mem_putR hp with rfl|hp
  ·exact ⟨h1,h2,h3⟩
  ·exact h.key p hp⟩
theorem ChI.del {n:Nat} {r:Rows} (h:ChI n r) (k:List UInt8):ChI n (mdel r k):=
 ⟨mdel_ris h.ris k,Nat.le_trans (List.length_filter_le _ _) h.len,fun p hp=>h.key p (List.mem_filter.1 hp).1⟩
theorem aKey_len (id:List UInt8):(aKey id).length≤2*id.length+10:=by
 unfold aKey keyT
 have:=esc_len id
 have:=esc_len [97]
 simp only [List.length_append,List.length_cons,List.length_nil] at *
 omega
theorem aKey_ff (id:List UInt8):Op.bytesLess (aKey id) ffB=true:=by
 unfold aKey keyT
 rfl
theorem ChI.acc {n:Nat} {r:Rows} (h:ChI n r) {id v:List UInt8} (h1:id.length≤900000) (h2:v.length≤9223372036854775000):ChI (n+1) (putR r (aKey id) v):=
 h.put (by have:=aKey_len id;omega) h2 (aKey_ff id)
theorem k4_len:∀ k,(kinds4.getD k []).length≤100
 |0=>by decide
 |1=>by decide
 |2=>by decide
 |3=>by decide
 |k+4=>by show ([]:List UInt8).length≤100;decide
theorem ChI.foundTo {n:Nat} {r:Rows} (h:ChI n r) {c:List UInt8} (hc:codeB c=true):∀ k,ChI (n+k) (foundTo r c k)
 |0=>h
 |k+1=>(ChI.foundTo h hc k).acc (by have:=k4_len k;have:=codeB_len hc;rw [List.length_append];omega) (by rw [rowA_len (codeB_len hc)];omega)
theorem ChI.step {n:Nat} {r:Rows} (h:ChI n r) {o:COp} (h1:o.ac.id.length≤900000) (h2:o.row.length≤9223372036854775000):ChI (n+4) (stepR r o):=by
 unfold stepR
 split
 ·unfold foundR
  split
  ·rename_i he
   refine ChI.foundTo h ?_ 4
   cases hc:codeB o.ac.cur with
   |true=>rfl
   |false=>unfold foundE at he;rw [hc] at he;cases he
  ·exact h.up (by omega)
 split
 ·unfold openR
  split
  ·rename_i he
   have hc:codeB o.ac.cur=true:=by
    cases hc:codeB o.ac.cur with
    |true=>rfl
    |false=>
     unfold openE at he
     rw [hc] at he
     split at he <;> cases he
   exact (h.acc h1 (by rw [rowA_len (a:=newA o.ac.id o.ac.cur) (codeB_len hc)];omega)).up (by omega)
  ·exact h.up (by omega)
 split
 ·unfold setR
  split
  ·rename_i he
   have hg:goodA o.ac=true:=by
    cases hc:goodA o.ac with
    |true=>rfl
    |false=>unfold setE at he;rw [hc] at he;cases he
   exact (h.acc h1 (by rw [rowA_len (goodA_in hg).1];omega)).up (by omega)
  ·exact h.up (by omega)
 split
 ·unfold freezeR
  split
  ·exact h.up (by omega)
  ·rename_i b hb
   split
   ·exact h.up (by omega)
   ·obtain ⟨-,-,-,-,hg,-⟩:=custO_some hb
    exact (h.acc h1 (by rw [rowA_len (a:={ b with frozen:=o.on }) (goodA_in hg).1];omega)).up (by omega)
 split
 ·unfold closeR
  split
  ·exact (h.del _).up (by omega)
  ·exact h.up (by omega)
 split
 ·exact (h.acc h1 h2).up (by omega)
 ·exact h.up (by omega)
theorem ChI.lk {n:Nat} {r:Rows} (h:ChI n r) {k s:List UInt8} (e:lk r k=some s):s.length≤9223372036854775000:=(h.key _ (lk_mem e)).2.1
theorem foundE_le (r:Rows) (c:List UInt8):foundE r c≤37:=by
 unfold foundE
 cases codeB c
 ·exact (by decide:11≤37)
 ·cases (lk r (sysK 0 c)).isSome || (lk r (sysK 1 c)).isSome || (lk r (sysK 2 c)).isSome || (lk r (sysK 3 c)).isSome
  ·exact Nat.zero_le _
  ·exact (by decide:21≤37)
theorem openE_le (r:Rows) (id c:List UInt8):openE r id c≤37:=by
 unfold openE
 split
 ·decide
 ·cases codeB c
  ·exact (by decide:11≤37)
  ·cases (lk r (aKey id)).isSome
   ·exact Nat.zero_le _
   ·exact (by decide:21≤37)
theorem setE_le (r:Rows) (a:Acct):setE r a≤37:=by
 unfold setE
 cases goodA a
 ·exact (by decide:7≤37)
 ·cases (lk r (aKey a.id)).isSome
  ·exact (by decide:20≤37)
  ·exact Nat.zero_le _
theorem getE_le (id:List UInt8) (o:Option (List UInt8)):getE id o≤37:=by
 cases h:getO id o with
 |none=>exact (getE_none h).2
 |some a=>rw [getE_some h];exact Nat.zero_le _
theorem custE_le (r:Rows) (id:List UInt8):custE r id≤37:=by
 cases h:custO r id with
 |none=>exact (custO_none h).2.1
 |some a=>rw [(custO_some h).1];exact Nat.zero_le _
theorem closeE_le (r:Rows) (id:List UInt8):closeE r id≤37:=by
 unfold closeE
 split
 ·exact custE_le r id
 ·split
  ·decide
  ·exact Nat.zero_le _
theorem keyed_ff {p:List UInt8} (h:Op.bytesLess p [255]=true):Op.bytesLess p ffB=true:=by
 match p,h with
 |[],_=>rfl
 |b::p,h=>
  simp only [Op.bytesLess,Bool.or_eq_true,decide_eq_true_eq,Bool.and_eq_true,beq_iff_eq] at h ⊢
  rcases h with h|⟨-,h⟩
  ·exact .inl h
  ·cases p <;> simp at h
theorem ofR_mem {l:Rows} {p:List UInt8 × List UInt8} (h:p ∈ ofR l):p ∈ l:=by
 have key:∀ (l r:Rows),p ∈ l.foldl (fun r p=>putR r p.1 p.2) r→p ∈ r∨p ∈ l:=fun l=>by
  induction l with
  |nil=>intro r h;exact .inl h
  |cons q l ih=>
   intro r h
   rcases ih _ h with h|h
   ·rcases mem_putR h with rfl|h
    ·exact .inr (List.mem_cons_self ..)
    ·exact .inl h
   ·exact .inr (List.mem_cons_of_mem _ h)
 rcases key l [] h with h|h
 ·cases h
 ·exact h
theorem few_in {l:Rows} {S:List COp} (h:fewB l S=true):8*S.length+sumR l+sumO S<65536:=of_decide_eq_true h
theorem ChI.first {l:Rows} {S:List COp} (h:fewB l S=true) (hk:(l.all fun p=>Op.bytesLess p.1 [255])=true):ChI l.length (ofR l):=
 ⟨ofR_ris l,by have:=ofR_lenT l l.length;rwa [List.take_length] at this,fun p hp=>by
  have hm:=ofR_mem hp
  have:=sumR_mem hm
  have:=few_in h
  exact ⟨by omega,by omega,keyed_ff (List.all_eq_true.1 hk p hm)⟩⟩
end Go.Proofs.YtnbgcimalpdfoaaGreatDoor
namespace Go.Proofs.YtnbgcimalpdfoaaGreatDoor
open Go Go.RowKit
section
variable {W:World} {F:Nat→Addr} {t m n:Nat} {r:Rows} {a:Option Addr} {c:Nat} {o:COp}
instance fn_step15:FnIs Tryz.prog 36:=⟨by kernel_rfl⟩
theorem Ct.upM {f:FuncId} {args:List Value} {L:List SP} {X:Type} {v:X→Value} {r':Rows} {G:X→List SP} {m m':Nat} (h:Ct Tryz.prog W f args L v (fun x=>TxQ t r' false m::G x)) (hm:m≤m'):Ct Tryz.prog W f args L v (fun x=>TxQ t r' false m'::G x):=
 h.to _root_.id (fun _=>rfl) (fun _ _ g q=>TxQ.up hm g q)
theorem step15_found (hE:ErrsAt W F) (hg:gB≤W.heap.size) (I:ChI n r) (hn:n≤100000000) (hm:m≤100000000) (_hi:o.ac.id.length≤900000) (hu:o.ac.cur.length≤2000000) (_hb:-9223372036854775808≤o.ac.bal∧o.ac.bal≤9223372036854775807) (hk:o.kind=0):Ct Tryz.prog W 36 [.pointer (some ⟨t,0,none⟩),.slice a r.length c,.agg (copC o).toArray] [TxQ t r false m,rwP (a,c) r] (fun x:Option Addr × Nat=>.tuple #[.slice x.1 (stepR r o).length x.2,.bool true]) (fun x=>[TxQ t (stepR r o) false (m+4),rwP x (stepR r o)]):=by
 have hr:=I.ris
 have hl:=I.len
 have er:stepR r o=foundR r o.ac.cur:=by unfold stepR;rw [hk];rfl
 have c1:=chfound_ct (W:=W) (F:=F) (t:=t) (m:=m) (r:=r) (cur:=o.ac.cur) hE.all hu (by omega) (by omega)
 have c2:=d15found_ct (W:=W) (a:=a) (c:=c) (r:=r) (cur:=o.ac.cur) hr (by omega)
 have hle:=foundE_le r o.ac.cur
 rw [er]
 obtain ⟨r',hr'⟩:∃ x,x=foundR r o.ac.cur:=⟨_,rfl⟩
 obtain ⟨e,he⟩:∃ x,x=foundE r o.ac.cur:=⟨_,rfl⟩
 rw [← hr'] at c1 c2 ⊢
 rw [← he] at c1 c2 hle
 clear hr' he er
 have cN:=numA_ct (W:=W) hE hg e hle
 have qe:decide (((e:Nat):Int)=((e:Nat):Int))=true:=decide_eq_true rfl
 have q0:decide (o.kind=0)=true:=by rw [hk];rfl
 refine Ct.enter Tryz.func36 rfl Tryz.ntmps36 (by simp) (fun R=>?_)
 repeat' (first|(refine zBm ?_;refine zBi rfl xF rfl (fun g=>?_))|(refine zAe ?_;first|(refine zAb xE cN xP rfl (fun _=>?_))|(refine zAb xE c2 xP rfl (fun x=>?_))|(refine zAb xE c1 xP rfl (fun _=>?_)))|(refine zAv ?_;first|refine zAa (zAf rfl rfl qe) ?_|refine zAa (zAf rfl rfl q0) ?_)|refine xst ?_|(refine xsa ?_;intro _)|(refine xsb ?_ ?_ <;>intro _<;>try (exfalso;omega))|refine xsc ?_|fail)
 all_goals (exact xdn x)
theorem step15_open (hE:ErrsAt W F) (hg:gB≤W.heap.size) (I:ChI n r) (hn:n≤100000000) (hm:m≤100000000) (hi:o.ac.id.length≤900000) (hu:o.ac.cur.length≤2000000) (_hb:-9223372036854775808≤o.ac.bal∧o.ac.bal≤9223372036854775807) (hk:o.kind=1):Ct Tryz.prog W 36 [.pointer (some ⟨t,0,none⟩),.slice a r.length c,.agg (copC o).toArray] [TxQ t r false m,rwP (a,c) r] (fun x:Option Addr × Nat=>.tuple #[.slice x.1 (stepR r o).length x.2,.bool true]) (fun x=>[TxQ t (stepR r o) false (m+4),rwP x (stepR r o)]):=by
 have hr:=I.ris
 have hl:=I.len
 have er:stepR r o=openR r o.ac.id o.ac.cur:=by unfold stepR;rw [hk];rfl
 have c1:=(chopen_ct (W:=W) (F:=F) (t:=t) (m:=m) (r:=r) (id:=o.ac.id) (cur:=o.ac.cur) hE.all (by omega) hu (by omega) (by omega)).upM (G:=fun _=>[]) (show m+1≤m+4 by omega)
 have c2:=d15open_ct (W:=W) (a:=a) (c:=c) (r:=r) (id:=o.ac.id) (cur:=o.ac.cur) (by omega) hr (by omega)
 have hle:=openE_le r o.ac.id o.ac.cur
 rw [er]
 obtain ⟨r',hr'⟩:∃ x,x=openR r o.ac.id o.ac.cur:=⟨_,rfl⟩
 obtain ⟨e,he⟩:∃ x,x=openE r o.ac.id o.ac.cur:=⟨_,rfl⟩
 rw [← hr'] at c1 c2 ⊢
 rw [← he] at c1 c2 hle
 clear hr' he er
 have cN:=numA_ct (W:=W) hE hg e hle
 have qe:decide (((e:Nat):Int)=((e:Nat):Int))=true:=decide_eq_true rfl
 have q0:decide (o.kind=0)=false:=by rw [hk];rfl
 have q1:decide (o.kind=1)=true:=by rw [hk];rfl
 refine Ct.enter Tryz.func36 rfl Tryz.ntmps36 (by simp) (fun R=>?_)
 repeat' (first|(refine zBm ?_;refine zBi rfl xF rfl (fun g=>?_))|(refine zAe ?_;first|(refine zAb xE cN xP rfl (fun _=>?_))|(refine zAb xE c2 xP rfl (fun x=>?_))|(refine zAb xE c1 xP rfl (fun _=>?_)))|(refine zAv ?_;first|refine zAa (zAf rfl rfl qe) ?_|refine zAa (zAf rfl rfl q1) ?_|refine zAa (zAf rfl rfl q0) ?_)|refine xst ?_|(refine xsa ?_;intro _)|(refine xsb ?_ ?_ <;>intro _<;>try (exfalso;omega))|refine xsc ?_|fail)
 all_goals (exact xdn x)
theorem step15_set (hE:ErrsAt W F) (hg:gB≤W.heap.size) (I:ChI n r) (hn:n≤100000000) (hm:m≤100000000) (hi:o.ac.id.length≤900000) (hu:o.ac.cur.length≤2000000) (hb:-9223372036854775808≤o.ac.bal∧o.ac.bal≤9223372036854775807) (hk:o.kind=3):Ct Tryz.prog W 36 [.pointer (some ⟨t,0,none⟩),.slice a r.length c,.agg (copC o).toArray] [TxQ t r false m,rwP (a,c) r] (fun x:Option Addr × Nat=>.tuple #[.slice x.1 (stepR r o).length x.2,.bool true]) (fun x=>[TxQ t (stepR r o) false (m+4),rwP x (stepR r o)]):=by
 have hr:=I.ris
 have hl:=I.len
 have er:stepR r o=setR r o.ac:=by unfold stepR;rw [hk];rfl
 have c1:=(chset_ct (W:=W) (F:=F) (t:=t) (m:=m) (r:=r) (a:=o.ac) hE.all (by omega) hu hb (by omega) (by omega)).upM (G:=fun _=>[]) (show m+1≤m+4 by omega)
 have c2:=d15set_ct (W:=W) (a:=a) (c:=c) (r:=r) (ac:=o.ac) (by omega) hb hr (by omega)
 have hle:=setE_le r o.ac
 rw [er]
 obtain ⟨r',hr'⟩:∃ x,x=setR r o.ac:=⟨_,rfl⟩
 obtain ⟨e,he⟩:∃ x,x=setE r o.ac:=⟨_,rfl⟩
 rw [← hr'] at c1 c2 ⊢
 rw [← he] at c1 c2 hle
 clear hr' he er
 have cN:=numA_ct (W:=W) hE hg e hle
 have qe:decide (((e:Nat):Int)=((e:Nat):Int))=true:=decide_eq_true rfl
 have q0:decide (o.kind=0)=false:=by rw [hk];rfl
 have q1:decide (o.kind=1)=false:=by rw [hk];rfl
 have q2:decide (o.kind=2)=false:=by rw [hk];rfl
 have q3:decide (o.kind=3)=true:=by rw [hk];rfl
 refine Ct.enter Tryz.func36 rfl Tryz.ntmps36 (by simp) (fun R=>?_)
 repeat' (first|(refine zBm ?_;refine zBi rfl xF rfl (fun g=>?_))|(refine zAe ?_;first|(refine zAb xE cN xP rfl (fun _=>?_))|(refine zAb xE c2 xP rfl (fun x=>?_))|(refine zAb xE c1 xP rfl (fun _=>?_)))|(refine zAv ?_;first|refine zAa (zAf rfl rfl qe) ?_|refine zAa (zAf rfl rfl q3) ?_|refine zAa (zAf rfl rfl q2) ?_|refine zAa (zAf rfl rfl q1) ?_|refine zAa (zAf rfl rfl q0) ?_)|refine xst ?_|(refine xsa ?_;intro _)|(refine xsb ?_ ?_ <;>intro _<;>try (exfalso;omega))|refine xsc ?_|fail)
 all_goals (exact xdn x)
theorem step15_freeze (hE:ErrsAt W F) (hg:gB≤W.heap.size) (I:ChI n r) (hn:n≤100000000) (hm:m≤100000000) (hi:o.ac.id.length≤900000) (_hu:o.ac.cur.length≤2000000) (_hb:-9223372036854775808≤o.ac.bal∧o.ac.bal≤9223372036854775807) (hk:o.kind=4):Ct Tryz.prog W 36 [.pointer (some ⟨t,0,none⟩),.slice a r.length c,.agg (copC o).toArray] [TxQ t r false m,rwP (a,c) r] (fun x:Option Addr × Nat=>.tuple #[.slice x.1 (stepR r o).length x.2,.bool true]) (fun x=>[TxQ t (stepR r o) false (m+4),rwP x (stepR r o)]):=by
 have hr:=I.ris
 have hl:=I.len
 have er:stepR r o=freezeR r o.ac.id o.on:=by unfold stepR;rw [hk];rfl
 have c1:=(chfreeze_ct (W:=W) (F:=F) (t:=t) (m:=m) (r:=r) (id:=o.ac.id) hE.all (by omega) (fun s hs=>I.lk hs) (by omega) (by omega) o.on).upM (G:=fun _=>[]) (show m+1≤m+4 by omega)
 have c2:=d15freeze_ct (W:=W) (a:=a) (c:=c) (r:=r) (id:=o.ac.id) (by omega) hr (by omega) o.on
 have hle:=custE_le r o.ac.id
 rw [er]
 obtain ⟨r',hr'⟩:∃ x,x=freezeR r o.ac.id o.on:=⟨_,rfl⟩
 obtain ⟨e,he⟩:∃ x,x=custE r o.ac.id:=⟨_,rfl⟩
 rw [← hr'] at c1 c2 ⊢
 rw [← he] at c1 c2 hle
 clear hr' he er
 have cN:=numA_ct (W:=W) hE hg e hle
 have qe:decide (((e:Nat):Int)=((e:Nat):Int))=true:=decide_eq_true rfl
 have q0:decide (o.kind=0)=false:=by rw [hk];rfl
 have q1:decide (o.kind=1)=false:=by rw [hk];rfl
 have q2:decide (o.kind=2)=false:=by rw [hk];rfl
 have q3:decide (o.kind=3)=false:=by rw [hk];rfl
 have q4:decide (o.kind=4)=true:=by rw [hk];rfl
 refine Ct.enter Tryz.func36 rfl Tryz.ntmps36 (by simp) (fun R=>?_)
 repeat' (first|(refine zBm ?_;refine zBi rfl xF rfl (fun g=>?_))|(refine zAe ?_;first|(refine zAb xE cN xP rfl (fun _=>?_))|(refine zAb xE c2 xP rfl (fun x=>?_))|(refine zAb xE c1 xP rfl (fun _=>?_)))|(refine zAv ?_;first|refine zAa (zAf rfl rfl qe) ?_|refine zAa (zAf rfl rfl q4) ?_|refine zAa (zAf rfl rfl q3) ?_|refine zAa (zAf rfl rfl q2) ?_|refine zAa (zAf rfl rfl q1) ?_|refine zAa (zAf rfl rfl q0) ?_)|refine xst ?_|(refine xsa ?_;intro _)|(refine xsb ?_ ?_ <;>intro _<;>try (exfalso;omega))|refine xsc ?_|fail)
 all_goals (exact xdn x)
theorem step15_close (hE:ErrsAt W F) (hg:gB≤W.heap.size) (I:ChI n r) (hn:n≤100000000) (hm:m≤100000000) (hi:o.ac.id.length≤900000) (_hu:o.ac.cur.length≤2000000) (_hb:-9223372036854775808≤o.ac.bal∧o.ac.bal≤9223372036854775807) (hk:o.kind=5):Ct Tryz.prog W 36 [.pointer (some ⟨t,0,none⟩),.slice a r.length c,.agg (copC o).toArray] [TxQ t r false m,rwP (a,c) r] (fun x:Option Addr × Nat=>.tuple #[.slice x.1 (stepR r o).length x.2,.bool true]) (fun x=>[TxQ t (stepR r o) false (m+4),rwP x (stepR r o)]):=by
 have hr:=I.ris
 have hl:=I.len
 have er:stepR r o=closeR r o.ac.id:=by unfold stepR;rw [hk];rfl
 have c1:=(chclose_ct (W:=W) (F:=F) (t:=t) (m:=m) (r:=r) (id:=o.ac.id) hE.all (by omega) (fun s hs=>I.lk hs) (by omega) (by omega)).upM (G:=fun _=>[]) (show m+1≤m+4 by omega)
 have c2:=d15close_ct (W:=W) (a:=a) (c:=c) (r:=r) (id:=o.ac.id) (by omega) hr (by omega)
 have hle:=closeE_le r o.ac.id
 rw [er]
 obtain ⟨r',hr'⟩:∃ x,x=closeR r o.ac.id:=⟨_,rfl⟩
 obtain ⟨e,he⟩:∃ x,x=closeE r o.ac.id:=⟨_,rfl⟩
 rw [← hr'] at c1 c2 ⊢
 rw [← he] at c1 c2 hle
 clear hr' he er
 have cN:=numA_ct (W:=W) hE hg e hle
 have qe:decide (((e:Nat):Int)=((e:Nat):Int))=true:=decide_eq_true rfl
 have q0:decide (o.kind=0)=false:=by rw [hk];rfl
 have q1:decide (o.kind=1)=false:=by rw [hk];rfl
 have q2:decide (o.kind=2)=false:=by rw [hk];rfl
 have q3:decide (o.kind=3)=false:=by rw [hk];rfl
 have q4:decide (o.kind=4)=false:=by rw [hk];rfl
 have q5:decide (o.kind=5)=true:=by rw [hk];rfl
 refine Ct.enter Tryz.func36 rfl Tryz.ntmps36 (by simp) (fun R=>?_)
 repeat' (first|(refine zBm ?_;refine zBi rfl xF rfl (fun g=>?_))|(refine zAe ?_;first|(refine zAb xE cN xP rfl (fun _=>?_))|(refine zAb xE c2 xP rfl (fun x=>?_))|(refine zAb xE c1 xP rfl (fun _=>?_)))|(refine zAv ?_;first|refine zAa (zAf rfl rfl qe) ?_|refine zAa (zAf rfl rfl q5) ?_|refine zAa (zAf rfl rfl q4) ?_|refine zAa (zAf rfl rfl q3) ?_|refine zAa (zAf rfl rfl q2) ?_|refine zAa (zAf rfl rfl q1) ?_|refine zAa (zAf rfl rfl q0) ?_)|refine xst ?_|(refine xsa ?_;intro _)|(refine xsb ?_ ?_ <;>intro _<;>try (exfalso;omega))|refine xsc ?_|fail)
 all_goals (exact xdn x)
theorem step15_get (hE:ErrsAt W F) (hg:gB≤W.heap.size) (I:ChI n r) (hn:n≤100000000) (_hm:m≤100000000) (hi:o.ac.id.length≤900000) (_hu:o.ac.cur.length≤2000000) (_hb:-9223372036854775808≤o.ac.bal∧o.ac.bal≤9223372036854775807) (hk:o.kind=2):Ct Tryz.prog W 36 [.pointer (some ⟨t,0,none⟩),.slice a r.length c,.agg (copC o).toArray] [TxQ t r false m,rwP (a,c) r] (fun x:Option Addr × Nat=>.tuple #[.slice x.1 (stepR r o).length x.2,.bool true]) (fun x=>[TxQ t (stepR r o) false (m+4),rwP x (stepR r o)]):=by
 have hr:=I.ris
 have hl:=I.len
 have er:stepR r o=r:=by unfold stepR;rw [hk];rfl
 have c1:=chget_ct (W:=W) (F:=F) (T:=TxQ t r false m) (t:=t) (id:=o.ac.id) (o:=lk r (aKey o.ac.id)) (by omega) (fun s hs=>I.lk hs) hE.all (txgetC (aKey o.ac.id))
 have c2:=d15get_ct (W:=W) (a:=a) (c:=c) (r:=r) (id:=o.ac.id) (by omega) (by omega)
 have hle:=getE_le o.ac.id (lk r (aKey o.ac.id))
 rw [er]
 unfold getV at c1
 unfold getD15 at c2
 obtain ⟨b,hb'⟩:∃ x,x=(getO o.ac.id (lk r (aKey o.ac.id))).getD ac0:=⟨_,rfl⟩
 obtain ⟨e,he⟩:∃ x,x=getE o.ac.id (lk r (aKey o.ac.id)):=⟨_,rfl⟩
 rw [← hb',← he] at c1 c2
 rw [← he] at hle
 clear hb' he er
 have cN:=numA_ct (W:=W) hE hg e hle
 have hself:=ac_self b Tryz.underlying51
 have qe:decide (((e:Nat):Int)=((e:Nat):Int))=true:=decide_eq_true rfl
 have q0:decide (o.kind=0)=false:=by rw [hk];rfl
 have q1:decide (o.kind=1)=false:=by rw [hk];rfl
 have q2:decide (o.kind=2)=true:=by rw [hk];rfl
 refine Ct.upM (G:=fun x=>[rwP x r]) (m:=m) ?_ (by omega)
 refine Ct.enter Tryz.func36 rfl Tryz.ntmps36 (by simp) (fun R=>?_)
 repeat' (first|(refine zBg ?_;refine zBe rfl (fun g2=>?_))|(refine zBm ?_;refine zBi rfl xF rfl (fun g=>?_))|(refine zAe ?_;first|(refine zAb xE cN xP rfl (fun _=>?_))|(refine zAb xE c2 xP rfl (fun _=>?_))|(refine zAb xE c1 xP rfl (fun _=>?_)))|(refine zAv ?_;first|refine zAa (zAf rfl rfl qe) ?_|refine zAa (zAf rfl rfl q2) ?_|refine zAa (zAf rfl rfl q1) ?_|refine zAa (zAf rfl rfl q0) ?_)|(refine zBa ?_;refine zAa (Ev_neqSt rfl rfl hself rfl) ?_)|refine xst ?_|(refine xsa ?_;intro _)|(refine xsb ?_ ?_ <;>intro _<;>try (exfalso;omega))|refine xsc ?_|fail)
 all_goals (exact xdn (a,c))
theorem step15_all (hE:ErrsAt W F) (_hg:gB≤W.heap.size) (I:ChI n r) (hn:n≤100000000) (_hm:m≤100000000) (_hi:o.ac.id.length≤900000) (_hu:o.ac.cur.length≤2000000) (_hb:-9223372036854775808≤o.ac.bal∧o.ac.bal≤9223372036854775807) (hk:o.kind=6):Ct Tryz.prog W 36 [.pointer (some ⟨t,0,none⟩),.slice a r.length c,.agg (copC o).toArray] [TxQ t r false m,rwP (a,c) r] (fun x:Option Addr × Nat=>.tuple #[.slice x.1 (stepR r o).length x.2,.bool true]) (fun x=>[TxQ t (stepR r o) false (m+4),rwP x (stepR r o)]):=by
 have hl:=I.len
 have er:stepR r o=r:=by unfold stepR;rw [hk];rfl
 have c2:=d15all_ct (W:=W) (a:=a) (c:=c) (r:=r) (by omega) (fun p hp=>(I.key p hp).1)
 have hA:(acctsD r).length≤1000000000:=by have:=acctsD_len r r.length;rw [List.take_length] at this;omega
 obtain ⟨A,hA'⟩:∃ x,x=acctsD r:=⟨_,rfl⟩
 have c1:=fun wa wc=>all15_ct (W:=W) (F:=F) (t:=t) (m:=m) (r:=r) hE.all (fun p hp=>⟨(I.key p hp).1,(I.key p hp).2.1⟩) A hA' (by rw [hA'];exact hA) wa wc
 rw [← hA'] at c2
 rw [er]
 clear hA' hA er
 have q0:decide (o.kind=0)=false:=by rw [hk];rfl
 have q1:decide (o.kind=1)=false:=by rw [hk];rfl
 have q2:decide (o.kind=2)=false:=by rw [hk];rfl
 have q3:decide (o.kind=3)=false:=by rw [hk];rfl
 have q4:decide (o.kind=4)=false:=by rw [hk];rfl
 have q5:decide (o.kind=5)=false:=by rw [hk];rfl
 have q6:decide (o.kind=6)=true:=by rw [hk];rfl
 refine Ct.upM (G:=fun x=>[rwP x r]) (m:=m) ?_ (by omega)
 refine Ct.enter Tryz.func36 rfl Tryz.ntmps36 (by simp) (fun R=>?_)
 repeat' (first|(refine zBm ?_;refine zBi rfl xF rfl (fun g=>?_))|(refine zAe ?_;first|(refine zAb xE (c1 _ _) xP rfl (fun _=>?_))|(refine zAb xE c2 xP rfl (fun x=>?_);obtain ⟨wa,wc⟩:=x))|(refine zAv ?_;first|refine zAa (zAf rfl rfl q6) ?_|refine zAa (zAf rfl rfl q5) ?_|refine zAa (zAf rfl rfl q4) ?_|refine zAa (zAf rfl rfl q3) ?_|refine zAa (zAf rfl rfl q2) ?_|refine zAa (zAf rfl rfl q1) ?_|refine zAa (zAf rfl rfl q0) ?_)|refine xst ?_|(refine xsa ?_;intro _)|(refine xsb ?_ ?_ <;>intro _<;>try (exfalso;omega))|refine xsc ?_|fail)
 all_goals (exact xdn (a,c))
theorem step15_put (_hE:ErrsAt W F) (_hg:gB≤W.heap.size) (I:ChI n r) (hn:n≤100000000) (hm:m≤100000000) (hi:o.ac.id.length≤900000) (_hu:o.ac.cur.length≤2000000) (_hb:-9223372036854775808≤o.ac.bal∧o.ac.bal≤9223372036854775807) (hk:o.kind=7):Ct Tryz.prog W 36 [.pointer (some ⟨t,0,none⟩),.slice a r.length c,.agg (copC o).toArray] [TxQ t r false m,rwP (a,c) r] (fun x:Option Addr × Nat=>.tuple #[.slice x.1 (stepR r o).length x.2,.bool true]) (fun x=>[TxQ t (stepR r o) false (m+4),rwP x (stepR r o)]):=by
 have hr:=I.ris
 have hl:=I.len
 have er:stepR r o=putR r (aKey o.ac.id) o.row:=by unfold stepR;rw [hk];rfl
 have c1:=d15key_ct (W:=W) o.ac.id (by omega)
 have c2:=(txputQ (W:=W) (t:=t) (m:=m) (r:=r) (aKey o.ac.id) o.row (by omega) (by omega)).upM (G:=fun _=>[]) (show m+1≤m+4 by omega)
 have c3:∀ g,Ct Tryz.prog W 78 [.slice a r.length c,.slice (some ⟨g,0,none⟩) 1 1] [rwP (a,c) r,zAp g (opC ⟨false,aKey o.ac.id,o.row⟩) 137] (fun x:Option Addr × Nat=>.slice x.1 (putR r (aKey o.ac.id) o.row).length x.2) (fun x=>[rwP x (putR r (aKey o.ac.id) o.row)]):=fun g=>rapply1 (W:=W) (a:=a) (c:=c) (r:=r) ⟨false,aKey o.ac.id,o.row⟩ hr (by omega) g
 rw [er]
 obtain ⟨r',hr'⟩:∃ x,x=putR r (aKey o.ac.id) o.row:=⟨_,rfl⟩
 obtain ⟨key,he⟩:∃ x,x=aKey o.ac.id:=⟨_,rfl⟩
 rw [← hr'] at c2 ⊢
 rw [← he] at c1 c2
 have c3:∀ g,Ct Tryz.prog W 78 [.slice a r.length c,.slice (some ⟨g,0,none⟩) 1 1] [rwP (a,c) r,zAp g (opC ⟨false,key,o.row⟩) 137] (fun x:Option Addr × Nat=>.slice x.1 r'.length x.2) (fun x=>[rwP x r']):=by rw [hr',he];exact c3
 clear hr' he er
 have q0:decide (o.kind=0)=false:=by rw [hk];rfl
 have q1:decide (o.kind=1)=false:=by rw [hk];rfl
 have q2:decide (o.kind=2)=false:=by rw [hk];rfl
 have q3:decide (o.kind=3)=false:=by rw [hk];rfl
 have q4:decide (o.kind=4)=false:=by rw [hk];rfl
 have q5:decide (o.kind=5)=false:=by rw [hk];rfl
 have q6:decide (o.kind=6)=false:=by rw [hk];rfl
 have q7:decide (o.kind=7)=true:=by rw [hk];rfl
 refine Ct.enter Tryz.func36 rfl Tryz.ntmps36 (by simp) (fun R=>?_)
 repeat' (first|(refine zBm ?_;refine zBi rfl xF rfl (fun g=>?_))|(refine zAe ?_;first|(refine zAb xE (c3 _) xP rfl (fun x=>?_))|(refine zAb xE c2 xP rfl (fun _=>?_))|(refine zAb xE c1 xP rfl (fun _=>?_)))|(refine zBb ?_;refine zBk rfl xF (by rfl) (by omega) rfl (fun gb=>?_))|(refine zAx ?_;refine zAa (zAy xV xW) ?_)|(refine zAv ?_;first|refine zAa (zAf rfl rfl q7) ?_|refine zAa (zAf rfl rfl q6) ?_|refine zAa (zAf rfl rfl q5) ?_|refine zAa (zAf rfl rfl q4) ?_|refine zAa (zAf rfl rfl q3) ?_|refine zAa (zAf rfl rfl q2) ?_|refine zAa (zAf rfl rfl q1) ?_|refine zAa (zAf rfl rfl q0) ?_)|refine xst ?_|(refine xsa ?_;intro _)|(refine xsb ?_ ?_ <;>intro _<;>try (exfalso;omega))|refine xsc ?_|fail)
 all_goals (exact xdn x)
theorem step15_none (hE:ErrsAt W F) (hg:gB≤W.heap.size) (_I:ChI n r) (_hn:n≤100000000) (_hm:m≤100000000) (_hi:o.ac.id.length≤900000) (_hu:o.ac.cur.length≤2000000) (_hb:-9223372036854775808≤o.ac.bal∧o.ac.bal≤9223372036854775807) (hk:o.kind<0∨7<o.kind):Ct Tryz.prog W 36 [.pointer (some ⟨t,0,none⟩),.slice a r.length c,.agg (copC o).toArray] [TxQ t r false m,rwP (a,c) r] (fun x:Option Addr × Nat=>.tuple #[.slice x.1 (stepR r o).length x.2,.bool true]) (fun x=>[TxQ t (stepR r o) false (m+4),rwP x (stepR r o)]):=by
 have er:stepR r o=r:=by
  unfold stepR
  rw [if_neg (by omega),if_neg (by omega),if_neg (by omega),if_neg (by omega),if_neg (by omega),if_neg (by omega)]
 have cN:=numA_ct (W:=W) hE hg 0 (by omega)
 rw [er]
 clear er
 have q0:decide (o.kind=0)=false:=decide_eq_false (by omega)
 have q1:decide (o.kind=1)=false:=decide_eq_false (by omega)
 have q2:decide (o.kind=2)=false:=decide_eq_false (by omega)
 have q3:decide (o.kind=3)=false:=decide_eq_false (by omega)
 have q4:decide (o.kind=4)=false:=decide_eq_false (by omega)
 have q5:decide (o.kind=5)=false:=decide_eq_false (by omega)
 have q6:decide (o.kind=6)=false:=decide_eq_false (by omega)
 have q7:decide (o.kind=7)=false:=decide_eq_false (by omega)
 refine Ct.upM (G:=fun x=>[rwP x r]) (m:=m) ?_ (by omega)
 refine Ct.enter Tryz.func36 rfl Tryz.ntmps36 (by simp) (fun R=>?_)
 repeat' (first|(refine zBm ?_;refine zBi rfl xF rfl (fun g=>?_))|(refine zAe ?_;refine zAb xE cN xP rfl (fun _=>?_))|(refine zAv ?_;first|refine zAa (zAf rfl rfl q7) ?_|refine zAa (zAf rfl rfl q6) ?_|refine zAa (zAf rfl rfl q5) ?_|refine zAa (zAf rfl rfl q4) ?_|refine zAa (zAf rfl rfl q3) ?_|refine zAa (zAf rfl rfl q2) ?_|refine zAa (zAf rfl rfl q1) ?_|refine zAa (zAf rfl rfl q0) ?_|refine zAa (zAf (q:=true) rfl rfl rfl) ?_)|refine xst ?_|(refine xsa ?_;intro _)|(refine xsb ?_ ?_ <;>intro _<;>try (exfalso;omega))|refine xsc ?_|fail)
 all_goals (exact xdn (a,c))
theorem step15_ct (hE:ErrsAt W F) (hg:gB≤W.heap.size) (I:ChI n r) (hn:n≤100000000) (hm:m≤100000000) (hi:o.ac.id.length≤900000) (hu:o.ac.cur.length≤2000000) (hb:-9223372036854775808≤o.ac.bal∧o.ac.bal≤9223372036854775807):Ct Tryz.prog W 36 [.pointer (some ⟨t,0,none⟩),.slice a r.length c,.agg (copC o).toArray] [TxQ t r false m,rwP (a,c) r] (fun x:Option Addr × Nat=>.tuple #[.slice x.1 (stepR r o).length x.2,.bool true]) (fun x=>[TxQ t (stepR r o) false (m+4),rwP x (stepR r o)]):=by
 by_cases h0:o.kind=0
 ·exact step15_found hE hg I hn hm hi hu hb h0
 by_cases h1:o.kind=1
 ·exact step15_open hE hg I hn hm hi hu hb h1
 by_cases h2:o.kind=2
 ·exact step15_get hE hg I hn hm hi hu hb h2
 by_cases h3:o.kind=3
 ·exact step15_set hE hg I hn hm hi hu hb h3
 by_cases h4:o.kind=4
 ·exact step15_freeze hE hg I hn hm hi hu hb h4
 by_cases h5:o.kind=5
 ·exact step15_close hE hg I hn hm hi hu hb h5
 by_cases h6:o.kind=6
 ·exact step15_all hE hg I hn hm hi hu hb h6
 by_cases h7:o.kind=7
 ·exact step15_put hE hg I hn hm hi hu hb h7
 exact step15_none hE hg I hn hm hi hu hb (by omega)
end
end Go.Proofs.YtnbgcimalpdfoaaGreatDoor
namespace Go.Proofs.YtnbgcimalpdfoaaGreatDoor
open Go Go.RowKit
theorem sumR_bound {l:Rows} {n:Nat} (h:∀ p ∈ l,p.1.length≤n∧p.2.length≤n):sumR l≤l.length*(2*n):=by
 induction l with
 |nil=>exact Nat.zero_le _
 |cons p l ih=>
  have h1:=h p (List.mem_cons_self ..)
  have h2:=ih fun q hq=>h q (List.mem_cons_of_mem _ hq)
  have e:sumR (p::l)=p.1.length+p.2.length+sumR l:=rfl
  rw [e,List.length_cons,Nat.succ_mul]
  omega
theorem sumO_bound {l:List COp} {n:Nat} (h:∀ o ∈ l,o.ac.id.length≤n∧o.row.length≤n):sumO l≤l.length*(2*n):=by
 induction l with
 |nil=>exact Nat.zero_le _
 |cons p l ih=>
  have h1:=h p (List.mem_cons_self ..)
  have h2:=ih fun q hq=>h q (List.mem_cons_of_mem _ hq)
  have e:sumO (p::l)=p.ac.id.length+p.row.length+sumO l:=rfl
  rw [e,List.length_cons,Nat.succ_mul]
  omega
structure Args15 (l:Rows) (S:List COp):Prop where
 ll:l.length≤1048576
 ls:S.length≤1048576
 row:∀ p ∈ l,p.1.length≤1048576∧p.2.length≤1048576
 op:∀ o ∈ S,o.ac.id.length≤1048576∧o.row.length≤1048576∧o.ac.cur.length≤1048576∧-9223372036854775808≤o.ac.bal∧o.ac.bal≤9223372036854775807
theorem Args15.sums {l:Rows} {S:List COp} (h:Args15 l S):sumR l≤1000000000000000∧sumO S≤1000000000000000:=by
 have h1:=sumR_bound h.row
 have h2:=sumO_bound fun o ho=>⟨(h.op o ho).1,(h.op o ho).2.1⟩
 have h3:=Nat.mul_le_mul_right (2*1048576) h.ll
 have h4:=Nat.mul_le_mul_right (2*1048576) h.ls
 exact ⟨by omega,by omega⟩
section
variable {W:World} {F:Nat→Addr}
theorem plays15_ct (hE:ErrsAt W F) (hN:NibAt W) (hg:gB≤W.heap.size) (A B:SP) (a b:Option Addr) (c d:Nat) (l:Rows) (S:List COp) (hA:Lv W rC 2 A a l) (hB:Lv W copC 9 B b S) (X:Args15 l S) :
 Ct Tryz.prog W 6 [.slice a l.length c,.slice b S.length d] [A,B] (fun _:Unit=>.bool true) (fun _=>[A,B]):=by
 obtain ⟨xs1,xs2⟩:=X.sums
 have x1:=X.ll
 have x2:=X.ls
 have cL:=lives15_ct hE hN hg
 have cF:=few15_ct A B a b c d l S hA hB (by omega) (by omega) xs1 xs2
 have cK:=keyed15_ct A a c l hA (by omega)
 have cb:=begin15_ct hE hN hg A a c l hA (by omega)
 have cr:=rrows_ct A a c l hA (by omega)
 cases hf:fewB l S with
 |false=>
  rw [hf] at cF
  refine Ct.enter Tryz.func6 rfl Tryz.ntmps6 (by simp) (fun R=>?_)
  repeat' (first|(refine zAe ?_;first|(refine zAb xE cF xP rfl (fun _=>?_))|(refine zAb xE cL xP rfl (fun _=>?_)))|refine xst ?_|(refine xsa ?_;intro _)|(refine xsb ?_ ?_ <;>intro _<;>try (exfalso;omega))|refine xsc ?_|fail)
  all_goals (exact xdn ())
 |true=>
 rw [hf] at cF
 cases hk:l.all fun p=>Op.bytesLess p.1 [255] with
 |false=>
  rw [hk] at cK
  refine Ct.enter Tryz.func6 rfl Tryz.ntmps6 (by simp) (fun R=>?_)
  repeat' (first|(refine zAe ?_;first|(refine zAb xE cK xP rfl (fun _=>?_))|(refine zAb xE cF xP rfl (fun _=>?_))|(refine zAb xE cL xP rfl (fun _=>?_)))|refine xst ?_|(refine xsa ?_;intro _)|(refine xsb ?_ ?_ <;>intro _<;>try (exfalso;omega))|refine xsc ?_|fail)
  all_goals (exact xdn ())
 |true=>
 rw [hk] at cK
 have I0:=ChI.first hf hk
 have hfew:=few_in hf
 clear hf hk
 obtain ⟨r0,hr0⟩:∃ x,x=ofR l:=⟨_,rfl⟩
 rw [← hr0] at cb cr I0
 clear hr0
 refine Ct.enter Tryz.func6 rfl Tryz.ntmps6 (by simp) (fun R=>?_)
 repeat' (first|(refine zAe ?_;first|(refine zAb xE cr xP rfl (fun x=>?_))|(refine zAb xE cb xP rfl (fun t=>?_))|(refine zAb xE cK xP rfl (fun _=>?_))|(refine zAb xE cF xP rfl (fun _=>?_))|(refine zAb xE cL xP rfl (fun _=>?_)))|refine xst ?_|(refine xsa ?_;intro _)|(refine xsb ?_ ?_ <;>intro _<;>try (exfalso;omega))|refine xsc ?_|fail)
 refine zBj (fun x:{x:Nat × Rows × (Option Addr × Nat)//x.1≤S.length∧ChI (l.length+4*x.1) x.2.1}=>[(5,.pointer (some ⟨t,0,none⟩)),(6,.slice x.1.2.2.1 x.1.2.1.length x.1.2.2.2),(29,.slice b S.length d),(30,.int .i64 (S.length:Nat)),(31,.int .i64 (x.1.1:Nat))])
  (fun x=>[A,B,TxQ t x.1.2.1 false (l.length+4*x.1.1),rwP x.1.2.2 x.1.2.1]++R) (fun x=>S.length-x.1.1) ⟨(0,r0,x),Nat.zero_le _,I0⟩ xB (xN) (fun ⟨(i,r,y),hi,hI⟩=>?_)
 dsimp only at hi hI ⊢
 by_cases hlt:i<S.length
 ·have ql:decide ((i:Int)<(S.length:Nat))=true:=decide_eq_true (by omega)
  obtain ⟨o,ho⟩:∃ s,S[i]? = some s:=⟨_,List.getElem?_eq_getElem hlt⟩
  have hmem:=List.mem_of_getElem? ho
  obtain ⟨o1,o2,o3,o4⟩:=X.op o hmem
  have osum:=sumO_mem hmem
  have hI2:=hI.step (o:=o) (by omega) (by omega)
  have cs:=step15_ct (W:=W) (F:=F) (t:=t) (m:=l.length+4*i) (n:=l.length+4*i) (r:=r) (a:=y.1) (c:=y.2) (o:=o) hE hg hI (by omega) (by omega) (by omega) (by omega) o4
  have em:l.length+4*i+4=l.length+4*(i+1):=by omega
  rw [em] at cs hI2
  obtain ⟨r',hr'⟩:∃ x,x=stepR r o:=⟨_,rfl⟩
  rw [← hr'] at cs hI2
  clear hr'
  refine KJ.lvSome hB xS (by omega) (fun ba oa hab=>?_)
  subst hab
  have hoff:oa+Int.toNat (i:Int)*9=oa+i*9:=by simp
  repeat' (first|(refine zBg ?_;refine zBe rfl (fun g=>?_))|(refine zAe ?_;refine zAb xE cs xP rfl (fun z=>?_))|(refine zAq ?_;refine zAa (zBx cop_ok hB rfl rfl xS hoff ho) ?_)|(refine zAw ?_;refine zAa (zAh (r:=((i+1:Nat):Int)) rfl rfl (by omega) (by omega)) ?_)|(refine zAi ?_;refine zAa (zAd rfl rfl ql) ?_)|refine xst ?_|(refine xsa ?_;intro _)|(refine xsb ?_ ?_ <;>intro _<;>try (exfalso;omega))|refine xsc ?_|fail)
  all_goals refine zAt ⟨(i+1,r',z),hlt,hI2⟩ (by show S.length-(i+1)<S.length-i;omega) xB (xN)
 have ql:decide ((i:Int)<(S.length:Nat))=false:=decide_eq_false (by omega)
 have hrl:=hI.len
 have ck:=look15_ct (W:=W) (t:=t) (m:=l.length+4*i) (r:=r) (by omega) (fun p hp=>(hI.key p hp).2.2)
 have cD:=d15all_ct (W:=W) (a:=y.1) (c:=y.2) (r:=r) (by omega) (fun p hp=>(hI.key p hp).1)
 have hAl:(acctsD r).length≤1000000000:=by have:=acctsD_len r r.length;rw [List.take_length] at this;omega
 obtain ⟨Q,hQ⟩:∃ x,x=acctsD r:=⟨_,rfl⟩
 have cA:=fun wa wc=>all15_ct (W:=W) (F:=F) (t:=t) (m:=l.length+4*i) (r:=r) hE.all (fun p hp=>⟨(hI.key p hp).1,(hI.key p hp).2.1⟩) Q hQ (by rw [hQ];exact hAl) wa wc
 rw [← hQ] at cD
 have cS:=fun x:Option Addr × Nat=>same15_ct (W:=W) (rwP x r) (rwP y r) x.1 y.1 x.2 y.2 r (Lv.own rC_ok rfl) (Lv.own rC_ok rfl) (by omega)
 clear hQ hAl
 repeat' (first|(refine zAe ?_;first|(refine zAb xE (cA _ _) xP rfl (fun _=>?_))|(refine zAb xE cD xP rfl (fun x=>?_);obtain ⟨wa,wc⟩:=x)|(refine zAb xE (cS _) xP rfl (fun _=>?_))|(refine zAb xE ck xP rfl (fun x=>?_)))|(refine zAi ?_;refine zAa (zAd rfl rfl ql) ?_)|refine xst ?_|(refine xsa ?_;intro _)|(refine xsb ?_ ?_ <;>intro _<;>try (exfalso;omega))|refine xsc ?_|fail)
 all_goals (exact xdn ())
theorem Ct.noPw2 {P:Program} {f:FuncId} {args:List Value} {X:Type} {r:X→Value} (h:Ct P W f args [noP,noP] r (fun _=>[noP,noP])):Ct P W f args [] r (fun _=>[]):=
 ⟨fun R w s=>(h.go R w ((s.mono noP_star).mono noP_star)).mono fun _ _ ⟨x,he,hs⟩=>⟨x,he,hs.right (A:=[noP,noP])⟩⟩
theorem plays15_law (hE:ErrsAt W F) (hN:NibAt W) (hg:gB≤W.heap.size) (a b:Option Addr) (c d:Nat) (l:Rows) (S:List COp) (hA:Lv W rC 2 noP a l) (hB:Lv W copC 9 noP b S) (X:Args15 l S) :
 Ct Tryz.prog W 6 [.slice a l.length c,.slice b S.length d] [] (fun _:Unit=>.bool true) (fun _=>[]):=(plays15_ct hE hN hg noP noP a b c d l S hA hB X).noPw2
end
end Go.Proofs.YtnbgcimalpdfoaaGreatDoor
