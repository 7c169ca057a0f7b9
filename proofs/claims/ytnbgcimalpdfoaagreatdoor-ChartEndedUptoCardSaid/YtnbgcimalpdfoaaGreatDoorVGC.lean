/-
  ChD2, ChS3, ChS4, ChSP, ChS6.
-/
import Derived.Test.YtnbgcimalpdfoaaGreatDoorVFX
import Derived.Test.YtnbgcimalpdfoaaGreatDoorVFE
import Derived.Test.YtnbgcimalpdfoaaGreatDoorVFR
import Derived.Test.YtnbgcimalpdfoaaGreatDoorVEY
import Derived.Test.YtnbgcimalpdfoaaGreatDoorVEZ
import Derived.Test.YtnbgcimalpdfoaaGreatDoorVEX
import Derived.Laws.BytesString
import Derived.Test.YtnbgcimalpdfoaaGreatDoorVFO
import Derived.Test.YtnbgcimalpdfoaaGreatDoorVCY
import Derived.Test.YtnbgcimalpdfoaaGreatDoorVBX
import Derived.Test.YtnbgcimalpdfoaaGreatDoorVFJ
set_option maxHeartbeats 64000000
namespace Go.Proofs.YtnbgcimalpdfoaaGreatDoor
open Go Go.RowKit
theorem foundTo_ris2 {r:Rows} (h:RisR r) (c:List UInt8):∀ k,RisR (foundTo r c k)
 |0=>h
 |k+1=>putR_ris (foundTo_ris2 h c k) _ _
section
variable {W:World} {a:Option Addr} {c:Nat} {r:Rows} {id cur:List UInt8} {ac:Acct}
theorem rapply1K (op:BOp) (hr:RisR r) (hl:(r.length+1)*32≤140737488355328) (g:Nat):Ct Tryz.prog W 78 [.slice a r.length c,.slice (some ⟨g,0,none⟩) 1 1] [rwP (a,c) r,zAn g (opC op) 137] (fun x:Option Addr × Nat=>.slice x.1 (apply1 r op).length x.2) (fun x=>[rwP (a,c) r,zAn g (opC op) 137,rwP x (apply1 r op)]):=
 rapply_ct (W:=W) (rwP (a,c) r) (zAn g (opC op) 137) a (some ⟨g,0,none⟩) c 1 r [op] (Lv.own rC_ok rfl) (Lv.cells (by simp)) hr (by simpa using hl)
theorem d15putK_ct (hg:goodA ac=true) (hi:ac.id.length≤2000000) (hr:RisR r) (hl:(r.length+1)*32≤140737488355328) :
 Ct Tryz.prog W 101 [.slice a r.length c,acV ac] [rwP (a,c) r] (fun x:Option Addr × Nat=>.slice x.1 (putR r (aKey ac.id) (rowA ac)).length x.2) (fun x=>[rwP (a,c) r,rwP x (putR r (aKey ac.id) (rowA ac))]):=by
 obtain ⟨-,-,-,k4,k5,-⟩:=goodA_in hg
 have ce:=d15enc_ct (W:=W) (a:=ac) hi ⟨k4,k5⟩
 rw [hg] at ce
 dsimp only [cond] at ce
 have ck:=d15key_ct (W:=W) ac.id (by omega)
 have ca:=rapply1K (W:=W) (a:=a) (c:=c) (r:=r) ⟨false,aKey ac.id,rowA ac⟩ hr hl
 have e:apply1 r ⟨false,aKey ac.id,rowA ac⟩=putR r (aKey ac.id) (rowA ac):=rfl
 rw [e] at ca
 obtain ⟨r',hr'⟩:∃ r',r'=putR r (aKey ac.id) (rowA ac):=⟨_,rfl⟩
 rw [← hr'] at ca ⊢
 obtain ⟨k,hk⟩:∃ k,k=aKey ac.id:=⟨_,rfl⟩
 obtain ⟨v,hv⟩:∃ v,v=rowA ac:=⟨_,rfl⟩
 rw [← hk] at ck ca
 rw [← hv] at ce ca
 clear hr' hk hv e
 refine Ct.enter Tryz.func101 rfl Tryz.ntmps101 (by simp) (fun R=>?_)
 repeat' (first|(refine zBn ?_;refine zBg rfl xF rfl (fun ga=>?_))|(refine zAe ?_;first|(refine zAa xE (ca _) xP rfl (fun x=>?_))|(refine zAa xE ck xP rfl (fun _=>?_))|(refine zAa xE ce xP rfl (fun _=>?_)))|(refine zAw ?_;refine zBa rfl xF (by rfl) (by omega) rfl (fun gb=>?_))|(refine zBk ?_;refine zAb (zBm xV xW) ?_)|refine xst ?_|(refine xsa ?_;intro _)|(refine xsb ?_ ?_ <;>intro _<;>try (exfalso;omega))|refine xsc ?_|fail)
 all_goals (exact xdn x)
theorem d15found_ct (hr:RisR r) (hl:(r.length+5)*32≤140737488355328) :
 Ct Tryz.prog W 51 [.slice a r.length c,strV cur] [rwP (a,c) r] (fun x:Option Addr × Nat=>.tuple #[.slice x.1 (foundR r cur).length x.2,.int .i64 (foundE r cur:Nat)]) (fun x=>[rwP x (foundR r cur)]):=by
 have cc:=dcode_ct (W:=W) cur
 have no:foundE r cur≠0→foundR r cur=r:=fun h=>if_neg h
 cases hc:codeB cur with
 |false=>
  rw [hc] at cc
  have e:foundE r cur=11:=by unfold foundE;rw [hc];rfl
  rw [no (by rw [e];decide),e]
  refine Ct.enter Tryz.func51 rfl Tryz.ntmps51 (by simp) (fun R=>?_)
  repeat' (first|(refine zAe ?_;refine zAa xE cc xP rfl (fun _=>?_))|refine xst ?_|(refine xsa ?_;intro _)|(refine xsb ?_ ?_ <;>intro _<;>try (exfalso;omega))|refine xsc ?_|fail)
  all_goals (exact xdn (a,c))
 |true=>
  rw [hc] at cc
  have hc3:=codeB_len hc
  have cs:∀ k,k<4→Ct Tryz.prog W 99 [.int .i64 ((k+2:Nat):Int),strV cur] [] (fun _:Unit=>strV (kinds4.getD k []++cur)) (fun _=>[]):=fun k hk=>by
   have h:=dsys_ct (W:=W) k hk ((k+2:Nat):Int) (by omega) cur hc
   unfold kindT at h
   exact h
  have ck:∀ k,k<4→Ct Tryz.prog W 29 [strV (kinds4.getD k []++cur)] [] (fun _:Unit=>strV (sysK k cur)) (fun _=>[]):=fun k hk=>d15key_ct (W:=W) _ (by have:=sysL hk hc3;omega)
  have cf:=fun key=>d15find_ct (W:=W) (a:=a) (c:=c) (r:=r) (by omega) key
  obtain ⟨E,hE⟩:∃ E,E=foundE r cur:=⟨_,rfl⟩
  obtain ⟨FR,hFR⟩:∃ FR,FR=foundR r cur:=⟨_,rfl⟩
  rw [← hE,← hFR]
  refine Ct.enter Tryz.func51 rfl Tryz.ntmps51 (by simp) (fun R=>?_)
  repeat' (first|(refine zAe ?_;refine zAa xE cc xP rfl (fun _=>?_))|refine xst ?_|(refine xsa ?_;intro _)|(refine xsb ?_ ?_ <;>intro _<;>try (exfalso;omega))|refine xsc ?_|fail)
  refine KJ.noP ?_
  refine zBe (fun i:{i:Nat × (Option Addr × Nat) × SP//i.1≤4∧(∀ j,j<i.1→(lk r (sysK j cur)).isSome=false)∧((i.1=0∧i.2.1=(a,c))∨(0<i.1∧i.2.2=rwP i.2.1 (foundTo r cur i.1)))}=>[(0,.slice a r.length c),(1,strV cur),(7,.slice i.1.2.1.1 (foundTo r cur i.1.1).length i.1.2.1.2),(8,.int .i64 ((i.1.1+2:Nat):Int))])
   (fun i=>[rwP (a,c) r,i.1.2.2]++R) (fun i=>4-i.1.1) ⟨(0,(a,c),noP),by omega,fun j h=>absurd h (by omega),.inl ⟨rfl,rfl⟩⟩ xB (xN) (fun ⟨(k,x,B),hk,hj,hx⟩=>?_)
  dsimp only at hk hj hx ⊢
  by_cases hlt:k<4
  ·have ql:decide (((k+2:Nat):Int)≤5)=true:=decide_eq_true (by omega)
   have cs1:=cs k hlt
   have ck1:=ck k hlt
   cases hlk:(lk r (sysK k cur)).isSome with
   |true=>
    have he:E=21:=by rw [hE];exact found_yes hc hlt hlk
    have hf:FR=r:=by rw [hFR];exact no (by rw [← hE,he];decide)
    have cf1:=cf (sysK k cur)
    rw [hlk] at cf1
    obtain ⟨y,hy⟩:∃ y,y=sysK k cur:=⟨_,rfl⟩
    rw [← hy] at ck1 cf1
    obtain ⟨z,hz⟩:∃ z,z=kinds4.getD k []++cur:=⟨_,rfl⟩
    rw [← hz] at cs1 ck1
    subst he hf
    clear hy hz
    repeat' (first|(refine zAe ?_;first|(refine zAa xE cf1 xP rfl (fun _=>?_))|(refine zAa xE ck1 xP rfl (fun _=>?_))|(refine zAa xE cs1 xP rfl (fun _=>?_)))|(refine ek_leq ?_;refine zAb (zBf rfl rfl ql) ?_)|refine xst ?_|(refine xsa ?_;intro _)|(refine xsb ?_ ?_ <;>intro _<;>try (exfalso;omega))|refine xsc ?_|fail)
    all_goals (exact xdn (a,c))
   |false=>
    have cf1:=cf (sysK k cur)
    rw [hlk] at cf1
    have hnext:∀ j,j<k+1→(lk r (sysK j cur)).isSome=false:=fun j hj2=>by
     by_cases e:j=k
     ·rw [e];exact hlk
     ·exact hj j (by omega)
    have hfl:=foundTo_len r cur k
    have hgd:=sysA_good hlt hc
    have hil:(sysA k cur).id.length≤2000000:=by have:=sysL hlt hc3;show (kinds4.getD k []++cur).length≤_;omega
    have hrk:=foundTo_ris2 hr cur k
    have en:putR (foundTo r cur k) (aKey (sysA k cur).id) (rowA (sysA k cur))=foundTo r cur (k+1):=rfl
    have cpK:=d15putK_ct (W:=W) (a:=x.1) (c:=x.2) (r:=foundTo r cur k) hgd hil hrk (by omega)
    have cpO:=d15put_ct (W:=W) (a:=x.1) (c:=x.2) (r:=foundTo r cur k) hgd hil hrk (by omega)
    rw [en] at cpK cpO
    have hv:acV (sysA k cur)=.agg #[strV (kinds4.getD k []++cur),strV cur,.int .i64 ((k+2:Nat):Int),.bool false,.int .i64 0,.int .i64 0]:=rfl
    rw [hv] at cpK cpO
    obtain ⟨y,hy⟩:∃ y,y=sysK k cur:=⟨_,rfl⟩
    rw [← hy] at ck1 cf1
    obtain ⟨z,hz⟩:∃ z,z=kinds4.getD k []++cur:=⟨_,rfl⟩
    rw [← hz] at cs1 ck1 cpK cpO
    clear hy hz hgd hil hv
    rcases hx with ⟨h0,h1⟩|⟨h0,h1⟩
    ·subst h0 h1
     have cpK:Ct Tryz.prog W 101 [.slice a r.length c,.agg #[strV z,strV cur,.int .i64 ((0+2:Nat):Int),.bool false,.int .i64 0,.int .i64 0]] [rwP (a,c) r] (fun x:Option Addr × Nat=>.slice x.1 (foundTo r cur (0+1)).length x.2) (fun x=>[rwP (a,c) r,rwP x (foundTo r cur (0+1))]):=cpK
     repeat' (first|(refine zAe ?_;first|(refine zAa xE cpK xP rfl (fun x'=>?_))|(refine zAa xE cf1 xP rfl (fun _=>?_))|(refine zAa xE ck1 xP rfl (fun _=>?_))|(refine zAa xE cs1 xP rfl (fun _=>?_)))|(refine zBk ?_;refine zAb (zBm xV xW) ?_)|(refine zAu ?_;refine zAb (zAh (r:=((0+1+2:Nat):Int)) rfl rfl (by omega) (by omega)) ?_)|(refine ek_leq ?_;refine zAb (zBf rfl rfl ql) ?_)|refine xst ?_|(refine xsa ?_;intro _)|(refine xsb ?_ ?_ <;>intro _<;>try (exfalso;omega))|refine xsc ?_|fail)
     all_goals exact zAr ⟨(0+1,x',rwP x' (foundTo r cur (0+1))),by omega,hnext,.inr ⟨by omega,rfl⟩⟩ (by show 4-(0+1)<4-0;omega) xB (xN)
    ·subst h1
     repeat' (first|(refine zAe ?_;first|(refine zAa xE cpO xP rfl (fun x'=>?_))|(refine zAa xE cf1 xP rfl (fun _=>?_))|(refine zAa xE ck1 xP rfl (fun _=>?_))|(refine zAa xE cs1 xP rfl (fun _=>?_)))|(refine zBk ?_;refine zAb (zBm xV xW) ?_)|(refine zAu ?_;refine zAb (zAh (r:=((k+1+2:Nat):Int)) rfl rfl (by omega) (by omega)) ?_)|(refine ek_leq ?_;refine zAb (zBf rfl rfl ql) ?_)|refine xst ?_|(refine xsa ?_;intro _)|(refine xsb ?_ ?_ <;>intro _<;>try (exfalso;omega))|refine xsc ?_|fail)
     all_goals exact zAr ⟨(k+1,x',rwP x' (foundTo r cur (k+1))),by omega,hnext,.inr ⟨by omega,rfl⟩⟩ (by show 4-(k+1)<4-k;omega) xB (xN)
  ·have ql:decide (((k+2:Nat):Int)≤5)=false:=decide_eq_false (by omega)
   obtain rfl:k=4:=by omega
   have he:E=0:=by rw [hE];exact found_no hc hj
   have hf:FR=foundTo r cur 4:=by rw [hFR];exact if_pos (by rw [← hE,he])
   rcases hx with ⟨h0,-⟩|⟨-,h1⟩
   ·omega
   ·subst h1
    subst he
    rw [hf]
    clear hFR hf
    repeat' (first|(refine ek_leq ?_;refine zAb (zBf rfl rfl ql) ?_)|refine xst ?_|(refine xsa ?_;intro _)|(refine xsb ?_ ?_ <;>intro _<;>try (exfalso;omega))|refine xsc ?_|fail)
    all_goals (exact xdn x)
end
end Go.Proofs.YtnbgcimalpdfoaaGreatDoor
namespace Go.Proofs.YtnbgcimalpdfoaaGreatDoor
open Go Go.RowKit
theorem ofR_lenT (l:Rows):∀ i,(ofR (l.take i)).length≤i
 |0=>by rw [List.take_zero];exact Nat.le_refl _
 |i+1=>by
  cases h:l[i]? with
  |none=>
   have hl:=List.getElem?_eq_none_iff.1 h
   have:=ofR_lenT l i
   rw [List.take_of_length_le (by omega)] at this ⊢
   omega
  |some p=>
   rw [ofR_next h]
   have:=ofR_lenT l i
   have:=putR_len (ofR (l.take i)) p.1 p.2
   omega
end Go.Proofs.YtnbgcimalpdfoaaGreatDoor
namespace Go.Proofs.YtnbgcimalpdfoaaGreatDoor
open Go Go.RowKit
structure COp where
 kind:Int
 ac:Acct
 on:Bool
 row:List UInt8
def copC (o:COp):List Value:=[.int .i64 o.kind,strV o.ac.id,strV o.ac.cur,.int .i64 o.ac.kind,.bool o.ac.frozen,.int .i64 o.ac.bal,.int .i64 o.ac.held,.bool o.on,strV o.row]
theorem cop_ok:EncOk copC 9:=⟨fun _=>rfl,fun x=>by unfold copC;exact xO,by omega⟩
def sumR (l:Rows):Nat:=(l.map fun p=>p.1.length+p.2.length).sum
def sumO (l:List COp):Nat:=(l.map fun o=>o.ac.id.length+o.row.length).sum
theorem sumR_next {l:Rows} {i:Nat} {p:List UInt8 × List UInt8} (h:l[i]? = some p):sumR (l.take (i+1))=sumR (l.take i)+(p.1.length+p.2.length):=by
 unfold sumR
 rw [List.take_add_one,h,List.map_append,List.sum_append]
 simp
theorem sumO_next {l:List COp} {i:Nat} {p:COp} (h:l[i]? = some p):sumO (l.take (i+1))=sumO (l.take i)+(p.ac.id.length+p.row.length):=by
 unfold sumO
 rw [List.take_add_one,h,List.map_append,List.sum_append]
 simp
theorem sumR_le (l:Rows) (i:Nat):sumR (l.take i)≤sumR l:=by
 have e:sumR l=sumR (l.take i)+sumR (l.drop i):=by
  unfold sumR
  rw [← List.sum_append,← List.map_append,List.take_append_drop]
 omega
theorem sumO_le (l:List COp) (i:Nat):sumO (l.take i)≤sumO l:=by
 have e:sumO l=sumO (l.take i)+sumO (l.drop i):=by
  unfold sumO
  rw [← List.sum_append,← List.map_append,List.take_append_drop]
 omega
theorem sumR_mem {l:Rows} {p:List UInt8 × List UInt8} (h:p ∈ l):p.1.length+p.2.length≤sumR l:=by
 obtain ⟨i,hi,he⟩:=List.mem_iff_getElem.1 h
 have h1:=sumR_next (l:=l) (i:=i) (p:=p) (by rw [List.getElem?_eq_getElem hi,he])
 have h2:=sumR_le l (i+1)
 omega
def fewB (l:Rows) (S:List COp):Bool:=decide (8*S.length+sumR l+sumO S<65536)
section
variable {W:World}
instance fn_few15:FnIs Tryz.prog 32:=⟨by kernel_rfl⟩
set_option maxRecDepth 100000 in
theorem few15_ct (A B:SP) (a b:Option Addr) (c d:Nat) (l:Rows) (S:List COp) (hA:Lv W rC 2 A a l) (hB:Lv W copC 9 B b S) (h1:l.length≤1000000000) (h2:S.length≤1000000000) (h3:sumR l≤1000000000000000) (h4:sumO S≤1000000000000000) :
 Ct Tryz.prog W 32 [.slice a l.length c,.slice b S.length d] [A,B] (fun _:Unit=>.bool (fewB l S)) (fun _=>[A,B]):=by
 refine Ct.enter Tryz.func32 rfl Tryz.ntmps32 (by simp) (fun R=>?_)
 repeat' (first|(refine ek_mul ?_;refine zAb (Ev_mulI_v (r:=((8*S.length:Nat):Int)) rfl rfl (by omega) (by omega)) ?_)|refine xst ?_|(refine xsa ?_;intro _)|(refine xsb ?_ ?_ <;>intro _<;>try (exfalso;omega))|refine xsc ?_|fail)
 refine zBe (fun i:{i:Nat//i≤l.length}=>[(1,.slice b S.length d),(5,.int .i64 (8*S.length+sumR (l.take i.1):Nat)),(13,.slice a l.length c),(14,.int .i64 (l.length:Nat)),(15,.int .i64 (i.1:Nat))])
  (fun _=>[A,B]++R) (fun i=>l.length-i.1) ⟨0,Nat.zero_le _⟩ xB (xN) (fun ⟨i,hi⟩=>?_)
 dsimp only
 have hsi:=sumR_le l i
 by_cases hlt:i<l.length
 ·have ql:decide ((i:Int)<(l.length:Nat))=true:=decide_eq_true (by omega)
  obtain ⟨x,hx⟩:∃ s,l[i]? = some s:=⟨_,List.getElem?_eq_getElem hlt⟩
  have hnx:=sumR_next hx
  have hsn:=sumR_le l (i+1)
  refine KJ.lvSome hA xS (by omega) (fun ba oa hab=>?_)
  subst hab
  have ho1:oa+Int.toNat (i:Int)*2=oa+i*2:=by rw [Int.toNat_natCast]
  repeat' (first|(refine zBd ?_;refine zBb rfl (fun g=>?_))|(refine zAp ?_;refine zAb (zBt rC_ok hA rfl rfl xS ho1 hx) ?_)|(refine zAu ?_;first|refine zAb (zAh (r:=((i+1:Nat):Int)) rfl rfl (by omega) (by omega)) ?_|refine zAb (zAh (r:=((x.1.length+x.2.length:Nat):Int)) rfl rfl (by omega) (by omega)) ?_|refine zAb (zAh (r:=((8*S.length+sumR (l.take (i+1)):Nat):Int)) rfl rfl (by omega) (by omega)) ?_)|(refine zAi ?_;refine zAb (zAd rfl rfl ql) ?_)|refine xst ?_|(refine xsa ?_;intro _)|(refine xsb ?_ ?_ <;>intro _<;>try (exfalso;omega))|refine xsc ?_|fail)
  all_goals refine zAr ⟨i+1,hlt⟩ (by show l.length-(i+1)<l.length-i;omega) xB (xN)
 have ql:decide ((i:Int)<(l.length:Nat))=false:=decide_eq_false (by omega)
 obtain rfl:i=l.length:=by omega
 rw [List.take_length]
 repeat' (first|(refine zAi ?_;refine zAb (zAd rfl rfl ql) ?_)|refine xst ?_|(refine xsa ?_;intro _)|(refine xsb ?_ ?_ <;>intro _<;>try (exfalso;omega))|refine xsc ?_|fail)
 refine zBe (fun i:{i:Nat//i≤S.length}=>[(5,.int .i64 (8*S.length+sumR l+sumO (S.take i.1):Nat)),(29,.slice b S.length d),(30,.int .i64 (S.length:Nat)),(31,.int .i64 (i.1:Nat))])
  (fun _=>[A,B]++R) (fun i=>S.length-i.1) ⟨0,Nat.zero_le _⟩ xB (xN) (fun ⟨i,hi2⟩=>?_)
 dsimp only
 have hso:=sumO_le S i
 by_cases hlt2:i<S.length
 ·have ql:decide ((i:Int)<(S.length:Nat))=true:=decide_eq_true (by omega)
  obtain ⟨x,hx⟩:∃ s,S[i]? = some s:=⟨_,List.getElem?_eq_getElem hlt2⟩
  have hnx:=sumO_next hx
  have hsn:=sumO_le S (i+1)
  refine KJ.lvSome hB xS (by omega) (fun ba oa hab=>?_)
  subst hab
  have ho1:oa+Int.toNat (i:Int)*9=oa+i*9:=by rw [Int.toNat_natCast]
  repeat' (first|(refine zBd ?_;refine zBb rfl (fun g=>?_))|(refine zAp ?_;refine zAb (zBt cop_ok hB rfl rfl xS ho1 hx) ?_)|(refine zAu ?_;first|refine zAb (zAh (r:=((i+1:Nat):Int)) rfl rfl (by omega) (by omega)) ?_|refine zAb (zAh (r:=((x.ac.id.length+x.row.length:Nat):Int)) rfl rfl (by omega) (by omega)) ?_|refine zAb (zAh (r:=((8*S.length+sumR l+sumO (S.take (i+1)):Nat):Int)) rfl rfl (by omega) (by omega)) ?_)|(refine zAi ?_;refine zAb (zAd rfl rfl ql) ?_)|refine xst ?_|(refine xsa ?_;intro _)|(refine xsb ?_ ?_ <;>intro _<;>try (exfalso;omega))|refine xsc ?_|fail)
  all_goals refine zAr ⟨i+1,hlt2⟩ (by show S.length-(i+1)<S.length-i;omega) xB (xN)
 have ql2:decide ((i:Int)<(S.length:Nat))=false:=decide_eq_false (by omega)
 obtain rfl:i=S.length:=by omega
 rw [List.take_length]
 obtain ⟨T,hT⟩:∃ T:Nat,8*S.length+sumR l+sumO S=T:=⟨_,rfl⟩
 have qf:decide ((T:Int)<65536)=fewB l S:=by unfold fewB;rw [hT];exact decide_eq_decide.2 (by omega)
 rw [hT]
 repeat' (first|(refine at_seq_region (id:=12) ?_;refine hold ?_)|(refine zAi ?_;refine zAb (zAd rfl rfl ql2) ?_)|refine xst ?_|(refine xsa ?_;intro _)|(refine xsb ?_ ?_ <;>intro _<;>try (exfalso;omega))|refine xsc ?_|fail)
 refine Hold.mk ?_
 repeat' (first|(refine zAi ?_;refine zAb (zAd rfl rfl qf) ?_)|refine xst ?_|(refine xsa ?_;intro _)|(refine xsb ?_ ?_ <;>intro _<;>try (exfalso;omega))|refine xsc ?_|fail)
 all_goals (exact xdn ())
end
end Go.Proofs.YtnbgcimalpdfoaaGreatDoor
namespace Go.Proofs.YtnbgcimalpdfoaaGreatDoor
open Go Go.RowKit
def stepR (r:Rows) (o:COp):Rows:=
 if o.kind=0 then foundR r o.ac.cur else if o.kind=1 then openR r o.ac.id o.ac.cur else if o.kind=3 then setR r o.ac else if o.kind=4 then freezeR r o.ac.id o.on
 else if o.kind=5 then closeR r o.ac.id else if o.kind=7 then putR r (aKey o.ac.id) o.row else r
structure ChI (n:Nat) (r:Rows):Prop where
 ris:RisR r
 len:r.length≤n
 key:∀ p ∈ r,p.1.length≤2000000∧p.2.length≤9223372036854775000∧Op.bytesLess p.1 ffB=true
theorem mem_putR {r:Rows} {k v:List UInt8} {p:List UInt8 × List UInt8} (h:p ∈ putR r k v):p=(k,v)∨p ∈ r:=by
 unfold putR at h
 split at h
 ·obtain ⟨q,hq,he⟩:=List.mem_map.1 h
  split at he
  ·exact .inl he.symm
  ·exact .inr (he ▸ hq)
 ·exact mem_insB.1 h
theorem ChI.up {n m:Nat} {r:Rows} (h:ChI n r) (hm:n≤m):ChI m r:=⟨h.ris,Nat.le_trans h.len hm,h.key⟩
theorem ChI.put {n:Nat} {r:Rows} (h:ChI n r) {k v:List UInt8} (h1:k.length≤2000000) (h2:v.length≤9223372036854775000) (h3:Op.bytesLess k ffB=true):ChI (n+1) (putR r k v):=
 ⟨putR_ris h.ris _ _,Nat.le_trans (putR_len r k v) (Nat.succ_le_succ h.len),fun p hp=>by
  rcases mem_putR hp with rfl|hp
  ·exact ⟨h1,h2,h3⟩
  ·exact h.key p hp⟩
theorem ChI.del {n:Nat} {r:Rows} (h:ChI n r) (k:List UInt8):ChI n (mdel r k):=
 ⟨mdel_ris h.ris k,Nat.le_trans (List.length_filter_le _ _) h.len,fun p hp=>h.key p (List.mem_filter.1 hp).1⟩
theorem aKey_len (id:List UInt8):(aKey id).length≤2*id.length+10:=by
 unfold aKey keyT
 have:=esc_len id
 have:=esc_len [97]
 simp only [List.length_append,List.length_cons,List.length_nil] at *
 omega
theorem aKey_ff (id:List UInt8):Op.bytesLess (aKey id) ffB=true:=by
 unfold aKey keyT
 rfl
theorem ChI.acc {n:Nat} {r:Rows} (h:ChI n r) {id v:List UInt8} (h1:id.length≤900000) (h2:v.length≤9223372036854775000):ChI (n+1) (putR r (aKey id) v):=
 h.put (by have:=aKey_len id;omega) h2 (aKey_ff id)
theorem k4_len:∀ k,(kinds4.getD k []).length≤100
 |0=>by decide
 |1=>by decide
 |2=>by decide
 |3=>by decide
 |k+4=>by show ([]:List UInt8).length≤100;decide
theorem ChI.foundTo {n:Nat} {r:Rows} (h:ChI n r) {c:List UInt8} (hc:codeB c=true):∀ k,ChI (n+k) (foundTo r c k)
 |0=>h
 |k+1=>(ChI.foundTo h hc k).acc (by have:=k4_len k;have:=codeB_len hc;rw [List.length_append];omega) (by rw [rowA_len (codeB_len hc)];omega)
theorem ChI.step {n:Nat} {r:Rows} (h:ChI n r) {o:COp} (h1:o.ac.id.length≤900000) (h2:o.row.length≤9223372036854775000):ChI (n+4) (stepR r o):=by
 unfold stepR
 split
 ·unfold foundR
  split
  ·rename_i he
   refine ChI.foundTo h ?_ 4
   cases hc:codeB o.ac.cur with
   |true=>rfl
   |false=>unfold foundE at he;rw [hc] at he;cases he
  ·exact h.up (by omega)
 split
 ·unfold openR
  split
  ·rename_i he
   have hc:codeB o.ac.cur=true:=by
    cases hc:codeB o.ac.cur with
    |true=>rfl
    |false=>
     unfold openE at he
     rw [hc] at he
     split at he <;> cases he
   exact (h.acc h1 (by rw [rowA_len (a:=newA o.ac.id o.ac.cur) (codeB_len hc)];omega)).up (by omega)
  ·exact h.up (by omega)
 split
 ·unfold setR
  split
  ·rename_i he
   have hg:goodA o.ac=true:=by
    cases hc:goodA o.ac with
    |true=>rfl
    |false=>unfold setE at he;rw [hc] at he;cases he
   exact (h.acc h1 (by rw [rowA_len (goodA_in hg).1];omega)).up (by omega)
  ·exact h.up (by omega)
 split
 ·unfold freezeR
  split
  ·exact h.up (by omega)
  ·rename_i b hb
   split
   ·exact h.up (by omega)
   ·obtain ⟨-,-,-,-,hg,-⟩:=custO_some hb
    exact (h.acc h1 (by rw [rowA_len (a:={ b with frozen:=o.on }) (goodA_in hg).1];omega)).up (by omega)
 split
 ·unfold closeR
  split
  ·exact (h.del _).up (by omega)
  ·exact h.up (by omega)
 split
 ·exact (h.acc h1 h2).up (by omega)
 ·exact h.up (by omega)
theorem ChI.lk {n:Nat} {r:Rows} (h:ChI n r) {k s:List UInt8} (e:lk r k=some s):s.length≤9223372036854775000:=(h.key _ (lk_mem e)).2.1
theorem foundE_le (r:Rows) (c:List UInt8):foundE r c≤37:=by
 unfold foundE
 cases codeB c
 ·exact (by decide:11≤37)
 ·cases (lk r (sysK 0 c)).isSome || (lk r (sysK 1 c)).isSome || (lk r (sysK 2 c)).isSome || (lk r (sysK 3 c)).isSome
  ·exact Nat.zero_le _
  ·exact (by decide:21≤37)
theorem openE_le (r:Rows) (id c:List UInt8):openE r id c≤37:=by
 unfold openE
 split
 ·decide
 ·cases codeB c
  ·exact (by decide:11≤37)
  ·cases (lk r (aKey id)).isSome
   ·exact Nat.zero_le _
   ·exact (by decide:21≤37)
theorem setE_le (r:Rows) (a:Acct):setE r a≤37:=by
 unfold setE
 cases goodA a
 ·exact (by decide:7≤37)
 ·cases (lk r (aKey a.id)).isSome
  ·exact (by decide:20≤37)
  ·exact Nat.zero_le _
theorem keyed_ff {p:List UInt8} (h:Op.bytesLess p [255]=true):Op.bytesLess p ffB=true:=by
 match p,h with
 |[],_=>rfl
 |b::p,h=>
  simp only [Op.bytesLess,Bool.or_eq_true,decide_eq_true_eq,Bool.and_eq_true,beq_iff_eq] at h ⊢
  rcases h with h|⟨-,h⟩
  ·exact .inl h
  ·cases p <;> simp at h
theorem ofR_mem {l:Rows} {p:List UInt8 × List UInt8} (h:p ∈ ofR l):p ∈ l:=by
 have key:∀ (l r:Rows),p ∈ l.foldl (fun r p=>putR r p.1 p.2) r→p ∈ r∨p ∈ l:=fun l=>by
  induction l with
  |nil=>intro r h;exact .inl h
  |cons q l ih=>
   intro r h
   rcases ih _ h with h|h
   ·rcases mem_putR h with rfl|h
    ·exact .inr (List.mem_cons_self ..)
    ·exact .inl h
   ·exact .inr (List.mem_cons_of_mem _ h)
 rcases key l [] h with h|h
 ·cases h
 ·exact h
theorem few_in {l:Rows} {S:List COp} (h:fewB l S=true):8*S.length+sumR l+sumO S<65536:=of_decide_eq_true h
theorem ChI.first {l:Rows} {S:List COp} (h:fewB l S=true) (hk:(l.all fun p=>Op.bytesLess p.1 [255])=true):ChI l.length (ofR l):=
 ⟨ofR_ris l,by have:=ofR_lenT l l.length;rwa [List.take_length] at this,fun p hp=>by
  have hm:=ofR_mem hp
  have:=sumR_mem hm
  have:=few_in h
  exact ⟨by omega,by omega,keyed_ff (List.all_eq_true.1 hk p hm)⟩⟩
end Go.Proofs.YtnbgcimalpdfoaaGreatDoor
namespace Go.Proofs.YtnbgcimalpdfoaaGreatDoor
open Go Go.RowKit
theorem sumR_bound {l:Rows} {n:Nat} (h:∀ p ∈ l,p.1.length≤n∧p.2.length≤n):sumR l≤l.length*(2*n):=by
 induction l with
 |nil=>exact Nat.zero_le _
 |cons p l ih=>
  have h1:=h p (List.mem_cons_self ..)
  have h2:=ih fun q hq=>h q (List.mem_cons_of_mem _ hq)
  have e:sumR (p::l)=p.1.length+p.2.length+sumR l:=rfl
  rw [e,List.length_cons,Nat.succ_mul]
  omega
theorem sumO_bound {l:List COp} {n:Nat} (h:∀ o ∈ l,o.ac.id.length≤n∧o.row.length≤n):sumO l≤l.length*(2*n):=by
 induction l with
 |nil=>exact Nat.zero_le _
 |cons p l ih=>
  have h1:=h p (List.mem_cons_self ..)
  have h2:=ih fun q hq=>h q (List.mem_cons_of_mem _ hq)
  have e:sumO (p::l)=p.ac.id.length+p.row.length+sumO l:=rfl
  rw [e,List.length_cons,Nat.succ_mul]
  omega
structure Args15 (l:Rows) (S:List COp):Prop where
 ll:l.length≤1048576
 ls:S.length≤1048576
 row:∀ p ∈ l,p.1.length≤1048576∧p.2.length≤1048576
 op:∀ o ∈ S,o.ac.id.length≤1048576∧o.row.length≤1048576∧o.ac.cur.length≤1048576∧-9223372036854775808≤o.ac.bal∧o.ac.bal≤9223372036854775807
theorem Args15.sums {l:Rows} {S:List COp} (h:Args15 l S):sumR l≤1000000000000000∧sumO S≤1000000000000000:=by
 have h1:=sumR_bound h.row
 have h2:=sumO_bound fun o ho=>⟨(h.op o ho).1,(h.op o ho).2.1⟩
 have h3:=Nat.mul_le_mul_right (2*1048576) h.ll
 have h4:=Nat.mul_le_mul_right (2*1048576) h.ls
 exact ⟨by omega,by omega⟩
end Go.Proofs.YtnbgcimalpdfoaaGreatDoor
