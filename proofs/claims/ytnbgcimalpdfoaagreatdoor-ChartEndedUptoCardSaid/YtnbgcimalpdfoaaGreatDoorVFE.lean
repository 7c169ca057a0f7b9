/-
  ChW3, ChW4.
-/
import Derived.Test.YtnbgcimalpdfoaaGreatDoorVFB
import Derived.Test.YtnbgcimalpdfoaaGreatDoorVFC
set_option maxHeartbeats 64000000
namespace Go.Proofs.YtnbgcimalpdfoaaGreatDoor
open Go Go.RowKit
abbrev plVFE0:Pl:=(.op 0 (.op 1 (.op 2 (.op 3 (.op 4 (.op 5 (.op 6 (.op 7 (.op 8 (.ef 9 [3,2,1,0] (.op 10 (.op 11 (.op 12 (.op 13 .nil))))))))))))))
section
variable {W:World} {F:Nat→Addr} {t m:Nat} {r:Rows} {ended:Bool} {id cur:List UInt8} {a:Acct}
instance fn_chopen:FnIs Tryz.prog 42:=⟨by kernel_rfl⟩
instance fn_chset:FnIs Tryz.prog 46:=⟨by kernel_rfl⟩
instance fn_chcust:FnIs Tryz.prog 89:=⟨by kernel_rfl⟩
instance fn_chfreeze:FnIs Tryz.prog 47:=⟨by kernel_rfl⟩
instance fn_chclose:FnIs Tryz.prog 45:=⟨by kernel_rfl⟩
theorem Ct.upQ {f:FuncId} {args:List Value} {X:Type} {v:X→Value} {r':Rows} (h:Ct Tryz.prog W f args [TxQ t r false m] v (fun _=>[TxQ t r' false m])):Ct Tryz.prog W f args [TxQ t r false m] v (fun _=>[TxQ t r' false (m+1)]):=
 h.to _root_.id (fun _=>rfl) (fun _ _ g q=>TxQ.up (Nat.le_succ m) g q)
theorem txgetC (key:List UInt8):Ct Tryz.prog W 24 [.pointer (some ⟨t,0,none⟩),strV key] [TxQ t r false m] (fun _:Unit=>.tuple #[strV ((lk r key).getD []),.bool (lk r key).isSome]) (fun _=>[TxQ t r false m]):=txgetQ (W:=W) (t:=t) (m:=m) (r:=r) (ended:=false) key
theorem chopen_ct (hE:ErrsOn L37 W F) (hi:id.length≤2000000) (hu:cur.length≤2000000) (hl:r.length≤288230376151711744) (hm:(m+1)*8≤140737488355328) :
 Ct Tryz.prog W 42 [.pointer (some ⟨t,0,none⟩),strV id,strV cur] [TxQ t r false m] (fun _:Unit=>errV F (openE r id cur)) (fun _=>[TxQ t (openR r id cur) false (m+1)]):=by
 have e7:W.cell? ⟨3,0,none⟩=some (errV F 7):=hE.at_ 7 (by decide)
 have e8:W.cell? ⟨19,0,none⟩=some (errV F 8):=hE.at_ 8 (by decide)
 have e11:W.cell? ⟨6,0,none⟩=some (errV F 11):=hE.at_ 11 (by decide)
 have e20:W.cell? ⟨5,0,none⟩=some (errV F 20):=hE.at_ 20 (by decide)
 have e21:W.cell? ⟨7,0,none⟩=some (errV F 21):=hE.at_ 21 (by decide)
 have ci:=icheck_ct (W:=W) (F:=F) id hi e7 e8
 have cc:=code_ct (W:=W) cur hu
 have ck:=chkey_ct (W:=W) id (by omega)
 have cg:=txgetC (W:=W) (t:=t) (r:=r) (m:=m) (aKey id)
 have no:openE r id cur≠0→openR r id cur=r:=fun h=>if_neg h
 by_cases h1:accE id=0
 rotate_left
 ·have hne:=errNe (F:=F) h1
  have e:openE r id cur=20:=if_pos h1
  rw [no (by rw [e];decide),e]
  refine Ct.upQ ?_
  refine Ct.enter Tryz.func42 rfl Tryz.ntmps42 (by simp) (fun R=>?_)
  repeat' (first|(refine zAe ?_;refine zAa xE ci xP rfl (fun _=>?_))|(refine zAp ?_;refine zAb (zAq rfl e20) ?_)|(refine zBc ?_;refine zAb (zCh rfl hne) ?_)|refine xst ?_|(refine xsa ?_;intro _)|(refine xsb ?_ ?_ <;>intro _<;>try (exfalso;omega))|refine xsc ?_|fail)
  all_goals (exact xdn ())
 rw [h1] at ci
 cases h2:codeB cur with
 |false=>
  rw [h2] at cc
  have e:openE r id cur=11:=by unfold openE;rw [if_neg (by omega),h2];rfl
  rw [no (by rw [e];decide),e]
  refine Ct.upQ ?_
  refine Ct.enter Tryz.func42 rfl Tryz.ntmps42 (by simp) (fun R=>?_)
  repeat' (first|(refine zAe ?_;first|(refine zAa xE ci xP rfl (fun _=>?_))|(refine zAa xE cc xP rfl (fun _=>?_)))|(refine zAp ?_;refine zAb (zAq rfl e11) ?_)|refine xst ?_|(refine xsa ?_;intro _)|(refine xsb ?_ ?_ <;>intro _<;>try (exfalso;omega))|refine xsc ?_|fail)
  all_goals (exact xdn ())
 |true=>
  rw [h2] at cc
  cases h3:lk r (aKey id) with
  |some s=>
   rw [h3] at cg
   have e:openE r id cur=21:=by unfold openE;rw [if_neg (by omega),h2,h3];rfl
   rw [no (by rw [e];decide),e]
   refine Ct.upQ ?_
   refine Ct.enter Tryz.func42 rfl Tryz.ntmps42 (by simp) (fun R=>?_)
   repeat' (first|(refine zAe ?_;first|(refine zAa xE ci xP rfl (fun _=>?_))|(refine zAa xE cc xP rfl (fun _=>?_))|(refine zAa xE ck xP rfl (fun _=>?_))|(refine zAa xE cg xP rfl (fun _=>?_)))|(refine zAp ?_;refine zAb (zAq rfl e21) ?_)|refine xst ?_|(refine xsa ?_;intro _)|(refine xsb ?_ ?_ <;>intro _<;>try (exfalso;omega))|refine xsc ?_|fail)
   all_goals (exact xdn ())
  |none=>
   rw [h3] at cg
   have e:openE r id cur=0:=by unfold openE;rw [if_neg (by omega),h2,h3];rfl
   have er:openR r id cur=putR r (aKey id) (rowA (newA id cur)):=if_pos e
   rw [er,e]
   have cr:=chrow_ct (W:=W) (a:=newA id cur) ⟨show (1:Int)≤1 by decide,show (1:Int)≤5 by decide⟩ hu
   have cp:=txputQ (W:=W) (t:=t) (m:=m) (r:=r) (aKey id) (rowA (newA id cur)) hl hm
   refine Ct.enter Tryz.func42 rfl Tryz.ntmps42 (by simp) (fun R=>?_)
   repeat' (first|(refine zAe ?_;first|(refine zAa xE ci xP rfl (fun _=>?_))|(refine zAa xE cc xP rfl (fun _=>?_))|(refine zAa xE ck xP rfl (fun _=>?_))|(refine zAa xE cg xP rfl (fun _=>?_))|(refine zAa xE cr xP rfl (fun _=>?_))|(refine zAa xE cp xP rfl (fun _=>?_)))|(refine zBk ?_;refine zAb (zBm xV xW) ?_)|refine xst ?_|(refine xsa ?_;intro _)|(refine xsb ?_ ?_ <;>intro _<;>try (exfalso;omega))|refine xsc ?_|fail)
   all_goals (exact xdn ())
end
end Go.Proofs.YtnbgcimalpdfoaaGreatDoor
namespace Go.Proofs.YtnbgcimalpdfoaaGreatDoor
open Go Go.RowKit
def sysV:List Value:=[.int .i64 2,.int .i64 3,.int .i64 4,.int .i64 5]
theorem sysV_get:∀ k,k<4→sysV[k]? = some (.int .i64 ((k+2:Nat):Int))
 |0,_=>rfl
 |1,_=>rfl
 |2,_=>rfl
 |3,_=>rfl
theorem found_yes {r:Rows} {c:List UInt8} (hc:codeB c=true):∀ {k:Nat},k<4→(lk r (sysK k c)).isSome=true→foundE r c=21:=by
 intro k hk h
 have e:((lk r (sysK 0 c)).isSome || (lk r (sysK 1 c)).isSome || (lk r (sysK 2 c)).isSome || (lk r (sysK 3 c)).isSome)=true:=by
  simp only [Bool.or_eq_true]
  match k,hk with
  |0,_=>exact .inl (.inl (.inl h))
  |1,_=>exact .inl (.inl (.inr h))
  |2,_=>exact .inl (.inr h)
  |3,_=>exact .inr h
 unfold foundE
 rw [hc,e];rfl
theorem found_no {r:Rows} {c:List UInt8} (hc:codeB c=true) (h:∀ k,k<4→(lk r (sysK k c)).isSome=false):foundE r c=0:=by
 unfold foundE
 rw [hc,h 0 (by omega),h 1 (by omega),h 2 (by omega),h 3 (by omega)];rfl
theorem foundTo_len (r:Rows) (c:List UInt8):∀ k,(foundTo r c k).length≤r.length+k
 |0=>Nat.le_refl _
 |k+1=>by
  have h1:=foundTo_len r c k
  have h2:=putR_len (foundTo r c k) (sysK k c) (rowA (sysA k c))
  show (putR (foundTo r c k) _ _).length≤_
  omega
section
variable {W:World} {F:Nat→Addr} {t m:Nat} {r:Rows} {cur:List UInt8}
instance fn_chsystem:FnIs Tryz.prog 87:=⟨by kernel_rfl⟩
instance fn_chfound:FnIs Tryz.prog 43:=⟨by kernel_rfl⟩
theorem chsystem_ct:Ct Tryz.prog W 87 [] [] (fun g:Nat=>.slice (some ⟨g,0,none⟩) 4 4) (fun g=>[zAn g sysV 3]):=by
 refine Ct.enter Tryz.func87 rfl Tryz.ntmps87 (by simp) (fun R=>?_)
 repeat' (first|(refine zAw ?_;refine KJ_bsliceN (len:=4) (places:=[(0,1),(1,1),(2,1),(3,1)]) (base:=[.int .i64 0,.int .i64 0,.int .i64 0,.int .i64 0]) xV (by rfl) (by rfl) xW (by omega) rfl (fun gb=>?_))|refine xst ?_|(refine xsa ?_;intro _)|(refine xsb ?_ ?_ <;>intro _<;>try (exfalso;omega))|refine xsc ?_|fail)
 all_goals (exact xdn gb)
theorem sysL {k:Nat} (hk:k<4) {c:List UInt8} (hc:c.length=3):(kinds4.getD k []++c).length≤100:=by
 match k,hk with
 |0,_=>rw [List.length_append,hc];decide
 |1,_=>rw [List.length_append,hc];decide
 |2,_=>rw [List.length_append,hc];decide
 |3,_=>rw [List.length_append,hc];decide
theorem chfound_ct (hE:ErrsOn L37 W F) (hu:cur.length≤2000000) (hl:r.length+4≤288230376151711744) (hm:(m+4)*8≤140737488355328) :
 Ct Tryz.prog W 43 [.pointer (some ⟨t,0,none⟩),strV cur] [TxQ t r false m] (fun _:Unit=>errV F (foundE r cur)) (fun _=>[TxQ t (foundR r cur) false (m+4)]):=by
 have e11:W.cell? ⟨6,0,none⟩=some (errV F 11):=hE.at_ 11 (by decide)
 have e21:W.cell? ⟨7,0,none⟩=some (errV F 21):=hE.at_ 21 (by decide)
 have cc:=code_ct (W:=W) cur hu
 have csy:=chsystem_ct (W:=W)
 have no:foundE r cur≠0→foundR r cur=r:=fun h=>if_neg h
 have up:∀ {f:FuncId} {args:List Value} {v:Unit→Value} {r':Rows},Ct Tryz.prog W f args [TxQ t r false m] v (fun _=>[TxQ t r' false m])→Ct Tryz.prog W f args [TxQ t r false m] v (fun _=>[TxQ t r' false (m+4)]):=fun h=>h.to id (fun _=>rfl) (fun _ R g q=>TxQ.up (by omega) g q)
 cases hc:codeB cur with
 |false=>
  rw [hc] at cc
  have e:foundE r cur=11:=by unfold foundE;rw [hc];rfl
  rw [no (by rw [e];decide),e]
  refine up ?_
  refine Ct.enter Tryz.func43 rfl Tryz.ntmps43 (by simp) (fun R=>?_)
  repeat' (first|(refine zAe ?_;refine zAa xE cc xP rfl (fun _=>?_))|(refine zAp ?_;refine zAb (zAq rfl e11) ?_)|refine xst ?_|(refine xsa ?_;intro _)|(refine xsb ?_ ?_ <;>intro _<;>try (exfalso;omega))|refine xsc ?_|fail)
  all_goals (exact xdn ())
 |true=>
  rw [hc] at cc
  have hc3:=codeB_len hc
  have cs:∀ k,k<4→Ct Tryz.prog W 88 [.int .i64 ((k+2:Nat):Int),strV cur] [] (fun _:Unit=>strV (kinds4.getD k []++cur)) (fun _=>[]):=fun k hk=>by
   have h:=system_ct (W:=W) k hk cur hu
   unfold sysT kindT at h
   rw [if_pos hc] at h
   exact h
  have ck:∀ k,k<4→Ct Tryz.prog W 28 [strV (kinds4.getD k []++cur)] [] (fun _:Unit=>strV (sysK k cur)) (fun _=>[]):=fun k hk=>chkey_ct (W:=W) _ (by have:=sysL hk hc3;omega)
  by_cases hall:∃ k,k<4∧(lk r (sysK k cur)).isSome=true
  ·have e:foundE r cur=21:=by obtain ⟨k,h1,h2⟩:=hall;exact found_yes hc h1 h2
   rw [no (by rw [e];decide),e]
   refine up ?_
   refine Ct.enter Tryz.func43 rfl Tryz.ntmps43 (by simp) (fun R=>?_)
   repeat' (first|(refine zAe ?_;first|(refine zAa xE csy xP rfl (fun gs=>?_))|(refine zAa xE cc xP rfl (fun _=>?_)))|refine xst ?_|(refine xsa ?_;intro _)|(refine xsb ?_ ?_ <;>intro _<;>try (exfalso;omega))|refine xsc ?_|fail)
   refine zBe (fun i:{k:Nat//k≤4∧∀ j,j<k→(lk r (sysK j cur)).isSome=false}=>[(0,.pointer (some ⟨t,0,none⟩)),(1,strV cur),(4,.nilIface),(17,.slice (some ⟨gs,0,none⟩) 4 4),(18,.int .i64 4),(19,.int .i64 (i.1:Nat))])
    (fun _=>[TxQ t r false m,zAn gs sysV 3]++R) (fun i=>4-i.1) ⟨0,by omega,fun j h=>absurd h (by omega)⟩ xB (xN) (fun ⟨k,hk,hj⟩=>?_)
   dsimp only
   have hlt:k<4:=by
    obtain ⟨k',h1,h2⟩:=hall
    by_cases h:k<4
    ·exact h
    ·rw [hj k' (by omega)] at h2;cases h2
   have ql:decide (((k:Nat):Int)<4)=true:=decide_eq_true (by omega)
   have hv:=sysV_get k hlt
   have cs1:=cs k hlt
   have ck1:=ck k hlt
   obtain ⟨y,hy⟩:∃ y,y=sysK k cur:=⟨_,rfl⟩
   have hy2:(lk r (sysK k cur)).isSome=(lk r y).isSome:=by rw [hy]
   have hnext:(lk r y).isSome=false→∀ j,j<k+1→(lk r (sysK j cur)).isSome=false:=fun h j hj2=>by
    by_cases e:j=k
    ·rw [e,hy2];exact h
    ·exact hj j (by omega)
   rw [← hy] at ck1
   have cg:=txgetC (W:=W) (t:=t) (r:=r) (m:=m) y
   obtain ⟨z,hz⟩:∃ z,z=kinds4.getD k []++cur:=⟨_,rfl⟩
   rw [← hz] at cs1 ck1
   clear hy hy2 hz
   cases hlk:lk r y with
   |some v=>
    rw [hlk] at cg
    repeat' (first|(refine zAe ?_;first|(refine zAa xE cg xP rfl (fun _=>?_))|(refine zAa xE ck1 xP rfl (fun _=>?_))|(refine zAa xE cs1 xP rfl (fun _=>?_)))|(refine zAp ?_;first|refine zAb (zAq rfl e21) ?_|refine zAb (Ev_load rfl xS (by simpa using hv)) ?_)|(refine zAi ?_;refine zAb (zAd rfl rfl ql) ?_)|refine xst ?_|(refine xsa ?_;intro _)|(refine xsb ?_ ?_ <;>intro _<;>try (exfalso;omega))|refine xsc ?_|fail)
    all_goals (exact xdn ())
   |none=>
    rw [hlk] at cg hnext
    repeat' (first|(refine zAe ?_;first|(refine zAa xE cg xP rfl (fun _=>?_))|(refine zAa xE ck1 xP rfl (fun _=>?_))|(refine zAa xE cs1 xP rfl (fun _=>?_)))|(refine zAp ?_;refine zAb (Ev_load rfl xS (by simpa using hv)) ?_)|(refine zAu ?_;refine zAb (zAh (r:=((k+1:Nat):Int)) rfl rfl (by omega) (by omega)) ?_)|(refine zAi ?_;refine zAb (zAd rfl rfl ql) ?_)|refine xst ?_|(refine xsa ?_;intro _)|(refine xsb ?_ ?_ <;>intro _<;>try (exfalso;omega))|refine xsc ?_|fail)
    all_goals exact zAr ⟨k+1,by omega,hnext rfl⟩ (by show 4-(k+1)<4-k;omega) xB (xN)
  ·have hnone:∀ k,k<4→(lk r (sysK k cur)).isSome=false:=fun k hk=>by
    cases h:(lk r (sysK k cur)).isSome with
    |false=>rfl
    |true=>exact absurd ⟨k,hk,h⟩ hall
   have e:foundE r cur=0:=found_no hc hnone
   have er:foundR r cur=foundTo r cur 4:=if_pos e
   rw [er,e]
   refine Ct.enter Tryz.func43 rfl Tryz.ntmps43 (by simp) (fun R=>?_)
   repeat' (first|(refine zAe ?_;first|(refine zAa xE csy xP rfl (fun gs=>?_))|(refine zAa xE cc xP rfl (fun _=>?_)))|refine xst ?_|(refine xsa ?_;intro _)|(refine xsb ?_ ?_ <;>intro _<;>try (exfalso;omega))|refine xsc ?_|fail)
   refine zBe (fun i:{k:Nat//k≤4}=>[(0,.pointer (some ⟨t,0,none⟩)),(1,strV cur),(4,.nilIface),(17,.slice (some ⟨gs,0,none⟩) 4 4),(18,.int .i64 4),(19,.int .i64 (i.1:Nat))])
    (fun _=>[TxQ t r false m,zAn gs sysV 3]++R) (fun i=>4-i.1) ⟨0,by omega⟩ xB (xN) (fun ⟨k,hk⟩=>?_)
   dsimp only
   by_cases hlt:k<4
   ·have ql:decide (((k:Nat):Int)<4)=true:=decide_eq_true (by omega)
    have hv:=sysV_get k hlt
    have cs1:=cs k hlt
    have ck1:=ck k hlt
    have hn:=hnone k hlt
    obtain ⟨y,hy⟩:∃ y,y=sysK k cur:=⟨_,rfl⟩
    rw [← hy] at ck1 hn
    have cg:=txgetC (W:=W) (t:=t) (r:=r) (m:=m) y
    obtain ⟨z,hz⟩:∃ z,z=kinds4.getD k []++cur:=⟨_,rfl⟩
    rw [← hz] at cs1 ck1
    rw [hn] at cg
    clear hy hz
    repeat' (first|(refine zAe ?_;first|(refine zAa xE cg xP rfl (fun _=>?_))|(refine zAa xE ck1 xP rfl (fun _=>?_))|(refine zAa xE cs1 xP rfl (fun _=>?_)))|(refine zAp ?_;refine zAb (Ev_load rfl xS (by simpa using hv)) ?_)|(refine zAu ?_;refine zAb (zAh (r:=((k+1:Nat):Int)) rfl rfl (by omega) (by omega)) ?_)|(refine zAi ?_;refine zAb (zAd rfl rfl ql) ?_)|refine xst ?_|(refine xsa ?_;intro _)|(refine xsb ?_ ?_ <;>intro _<;>try (exfalso;omega))|refine xsc ?_|fail)
    all_goals exact zAr ⟨k+1,by omega⟩ (by show 4-(k+1)<4-k;omega) xB (xN)
   ·have ql:decide (((k:Nat):Int)<4)=false:=decide_eq_false (by omega)
    repeat' (first|(refine zAe ?_;refine zAa xE csy xP rfl (fun gs2=>?_))|(refine zAi ?_;refine zAb (zAd rfl rfl ql) ?_)|refine xst ?_|(refine xsa ?_;intro _)|(refine xsb ?_ ?_ <;>intro _<;>try (exfalso;omega))|refine xsc ?_|fail)
    refine zBe (fun i:{k:Nat//k≤4}=>[(0,.pointer (some ⟨t,0,none⟩)),(1,strV cur),(4,.nilIface),(35,.slice (some ⟨gs2,0,none⟩) 4 4),(36,.int .i64 4),(37,.int .i64 (i.1:Nat))])
     (fun i=>[TxQ t (foundTo r cur i.1) false (m+i.1),zAn gs2 sysV 3]++R) (fun i=>4-i.1) ⟨0,by omega⟩ xB (xN) (fun ⟨k,hk⟩=>?_)
    dsimp only
    by_cases hlt:k<4
    ·have ql:decide (((k:Nat):Int)<4)=true:=decide_eq_true (by omega)
     have hv:=sysV_get k hlt
     have cs1:=cs k hlt
     have ck1:=ck k hlt
     have hfl:=foundTo_len r cur k
     have cp:=txputQ (W:=W) (t:=t) (m:=m+k) (r:=foundTo r cur k) (sysK k cur) (rowA (sysA k cur)) (by omega) (by omega)
     have cr:Ct Tryz.prog W 73 [.agg #[strV (kinds4.getD k []++cur),strV cur,.int .i64 ((k+2:Nat):Int),.bool false,.int .i64 0,.int .i64 0]] [] (fun _:Unit=>strV (rowA (sysA k cur))) (fun _=>[]):=chrow_ct (W:=W) (a:=sysA k cur) ⟨by show (1:Int)≤((k+2:Nat):Int);omega,by show ((k+2:Nat):Int)≤5;omega⟩ hu
     have en:putR (foundTo r cur k) (sysK k cur) (rowA (sysA k cur))=foundTo r cur (k+1):=rfl
     rw [en] at cp
     obtain ⟨y,hy⟩:∃ y,y=sysK k cur:=⟨_,rfl⟩
     obtain ⟨z,hz⟩:∃ z,z=kinds4.getD k []++cur:=⟨_,rfl⟩
     obtain ⟨v,hvv⟩:∃ v,v=rowA (sysA k cur):=⟨_,rfl⟩
     rw [← hvv] at cr cp
     rw [← hy] at ck1 cp
     rw [← hz] at cs1 ck1 cr
     clear hy hz hvv
     obtain ⟨r1,hr1⟩:∃ r1,r1=foundTo r cur k:=⟨_,rfl⟩
     rw [← hr1] at cp ⊢
     repeat' (first|(refine zAe ?_;first|(refine zAa xE cp xP rfl (fun _=>?_))|(refine zAa xE cr xP rfl (fun _=>?_))|(refine zAa xE ck1 xP rfl (fun _=>?_))|(refine zAa xE cs1 xP rfl (fun _=>?_)))|(refine zAp ?_;refine zAb (Ev_load rfl xS (by simpa using hv)) ?_)|(refine zBk ?_;refine zAb (zBm xV xW) ?_)|(refine zAu ?_;refine zAb (zAh (r:=((k+1:Nat):Int)) rfl rfl (by omega) (by omega)) ?_)|(refine zAi ?_;refine zAb (zAd rfl rfl ql) ?_)|refine xst ?_|(refine xsa ?_;intro _)|(refine xsb ?_ ?_ <;>intro _<;>try (exfalso;omega))|refine xsc ?_|fail)
     all_goals exact zAr ⟨k+1,by omega⟩ (by show 4-(k+1)<4-k;omega) xB (xN)
    ·have ql:decide (((k:Nat):Int)<4)=false:=decide_eq_false (by omega)
     obtain rfl:k=4:=by omega
     repeat' (first|(refine zAi ?_;refine zAb (zAd rfl rfl ql) ?_)|refine xst ?_|(refine xsa ?_;intro _)|(refine xsb ?_ ?_ <;>intro _<;>try (exfalso;omega))|refine xsc ?_|fail)
     all_goals (exact xdn ())
theorem Ev_mkFunc1 {P:Program} {W:World} {n:Nat} {E:Env} {H:List SP} {x:Operand} {a:Value} {f:Fn} (hx:Env.ev E x=some a):Ev P W n E H (.makeFunc f #[] #[x]) (.func f #[] #[a]):=
 Ev.mk fun o ho ac w p _=>by simp [execOp,ho,p.ev hx,Instr.makeFunc]
instance fn_kafter:FnIs Tryz.prog 91:=⟨by kernel_rfl⟩
instance fn_chall:FnIs Tryz.prog 48:=⟨by kernel_rfl⟩
instance fn_txrange:FnIs Tryz.prog 82:=⟨by kernel_rfl⟩
instance fn_tbrange:FnIs Tryz.prog 131:=⟨by kernel_rfl⟩
theorem kafter_ct (s:List UInt8) (b:UInt8) (hb:b.toNat<255) (hs:s.length≤9223372036854775000):Ct Tryz.prog W 91 [strV (s++[b])] [] (fun _:Unit=>.tuple #[strV (s++[b+1]),.bool true]) (fun _=>[]):=by
 obtain ⟨z,hz⟩:∃ z,z=s++[b]:=⟨_,rfl⟩
 have hzl:z.length=s.length+1:=by rw [hz,List.length_append];rfl
 have hi:z[((s.length:Nat):Int).toNat]? = some b:=by rw [Int.toNat_natCast,hz,List.getElem?_append_right (Nat.le_refl _),Nat.sub_self];rfl
 have hsl:z.take ((s.length:Nat):Int).toNat=s:=by rw [Int.toNat_natCast,hz,List.take_left' rfl]
 have qn:decide (((b.toNat:Nat):Int)≠255)=true:=decide_eq_true (by omega)
 have ql:decide ((0:Int)<((z.length:Nat):Int))=true:=decide_eq_true (by omega)
 have hb1:(b+1).toNat=b.toNat+1:=by rw [UInt8.toNat_add];show (b.toNat+1) % 256=_;omega
 have w1:IntKind.u8.wrap (((b.toNat:Nat):Int)+1)=(((b+1).toNat:Nat):Int):=by rw [hb1,show ((b.toNat:Nat):Int)+1=((b.toNat+1:Nat):Int) by omega,u8_wrap];omega
 have bl:s.length+([b+1]:List UInt8).length≤9223372036854775807:=by simp;omega
 have v0:(0:Int)≤((s.length:Nat):Int)∧((s.length:Nat):Int)≤((z.length:Nat):Int):=by omega
 rw [← hz]
 clear hz hb1
 refine Ct.enter Tryz.func91 rfl Tryz.ntmps91 (by simp) (fun R=>?_)
 repeat' (first|refine xst ?_|(refine xsa ?_;intro _)|(refine xsb ?_ ?_ <;>intro _<;>try (exfalso;omega))|refine xsc ?_|(refine zAc (id:=5) plVFE0 (by kernel_rfl) (by kernel_rfl) ?_)|refine zAm ?_ ?_|refine zAk rfl rfl rfl rfl rfl ?_ ?_|refine zAg ?_ ?_|exact Rech.nil|fail)
 refine zBe (fun _:Unit=>[(0,strV z),(2,strV []),(3,.bool false),(4,.int .i64 (z.length:Nat))]) (fun _=>[]++R) (fun _=>0) () xB (xN) (fun _=>?_)
 repeat' (first|(refine zAw ?_;refine zBa rfl xF (by rfl) (by omega) rfl (fun gb=>?_))|(refine zBi ?_;refine zAb (Ev_bytesStr0 (l:=[b+1]) rfl xS rfl) ?_)|(refine zBj ?_;refine zAb (zAt rfl rfl (by omega) hi) ?_)|(refine zCb ?_;refine zAb (Ev_sliceTo_p rfl rfl v0 hsl) ?_)|(refine zAu ?_;first|refine zAb (Ev_add_w rfl rfl w1) ?_|refine zAb (Ev_addS (a:=s) (b:=[b+1]) rfl rfl bl) ?_)|(refine ek_sub ?_;refine zAb (Ev_subI_v (r:=((s.length:Nat):Int)) rfl rfl (by omega) (by omega)) ?_)|(refine zBc ?_;refine zAb (Ev_neqI_q rfl rfl qn) ?_)|(refine zAz ?_;refine zAb (zAj rfl rfl ql) ?_)|refine xst ?_|(refine xsa ?_;intro _)|(refine xsb ?_ ?_ <;>intro _<;>try (exfalso;omega))|refine xsc ?_|(refine zAc (id:=5) plVFE0 (by kernel_rfl) (by kernel_rfl) ?_)|refine zAm ?_ ?_|refine zAk rfl rfl rfl rfl rfl ?_ ?_|refine zAg ?_ ?_|exact Rech.nil|fail)
 all_goals (exact xdn ())
abbrev rngV (x:Nat × Nat × Nat):Value:=.func (.func 184) #[] #[.pointer (some ⟨x.1,0,none⟩),.pointer (some ⟨x.2.1,0,none⟩),.pointer (some ⟨x.2.2,0,none⟩)]
abbrev rngP (x:Nat × Nat × Nat) (a:Option Addr) (lo hi:List UInt8):List SP:=[zAn x.1 [.pointer a] 184,zAn x.2.1 [strV lo] 9,zAn x.2.2 [strV hi] 9]
theorem tbrange_ct {p:Nat} {a:Option Addr} {b:Int} (lo hi:List UInt8):Ct Tryz.prog W 131 [.pointer (some ⟨p,0,none⟩),strV lo,strV hi] [tbP p a b] rngV (fun x=>tbP p a b::rngP x a lo hi):=by
 refine Ct.enter Tryz.func131 rfl Tryz.ntmps131 (by simp) (fun R=>?_)
 repeat' (first|(refine zBd ?_;refine zBb rfl (fun g7=>?_))|(refine zBn ?_;first|(refine zBg (d:=5) rfl xF rfl (fun g5=>?_))|(refine zBg (d:=4) rfl xF rfl (fun g4=>?_)))|(refine ek_mkFunc ?_;refine zAb (Ev_mkFunc3 rfl rfl rfl) ?_)|refine xst ?_|(refine xsa ?_;intro _)|(refine xsb ?_ ?_ <;>intro _<;>try (exfalso;omega))|refine xsc ?_|fail)
 all_goals (exact xdn (g7,g4,g5))
theorem txrange_ct {s:Nat} {K:List (List UInt8 × Bool)} {U:List UE} (lo hi:List UInt8):Ct Tryz.prog W 82 [.pointer (some ⟨t,0,none⟩),strV lo,strV hi] [TxP t s r K U false] rngV (fun _=>[TxP t s r K U false]):=by
 refine Ct.enter Tryz.func82 rfl Tryz.ntmps82 (by simp) (fun R=>?_)
 refine KJ.txOpen xS (fun x hT=>?_)
 have cr:=tbrange_ct (W:=W) (p:=x.q) (a:=x.a) (b:=x.b) lo hi
 repeat' (first|(refine zAe ?_;refine zAa xE cr xP rfl (fun y=>?_);obtain ⟨y1,y2,y3⟩:=y)|refine xst ?_|(refine xsa ?_;intro _)|(refine xsb ?_ ?_ <;>intro _<;>try (exfalso;omega))|refine xsc ?_|fail)
 all_goals refine KJ.txShut (s:=s) (K:=K) (U:=U) (ended:=false) x hT xP ?_
 all_goals (exact xdn (y1,y2,y3))
theorem txrangeQ (lo hi:List UInt8):Ct Tryz.prog W 82 [.pointer (some ⟨t,0,none⟩),strV lo,strV hi] [TxQ t r false m] rngV (fun _=>[TxQ t r false m]):=by
 refine Ct_unpack (Hs:=[]) fun ⟨(s,K,U),hU⟩=>?_
 exact (txrange_ct (W:=W) lo hi).to id (fun _=>rfl) (fun _ R g q=>TxQ.star hU g q)
abbrev aLo:List UInt8:=[2,97,0,1]
abbrev aHi:List UInt8:=[2,97,0,2]
theorem chall_ct:Ct Tryz.prog W 48 [.pointer (some ⟨t,0,none⟩)] [TxQ t r false m] (fun g:Nat=>.func (.func 92) #[] #[.pointer (some ⟨g,0,none⟩)]) (fun _=>[TxQ t r false m]):=by
 have c1:=ktext_ct (W:=W) [97]
 have cj:∀ gb,Ct Tryz.prog W 64 [.slice (some ⟨gb,0,none⟩) 1 1] [zAn gb (kpC [97]) 94] (fun _:Unit=>strV aLo) (fun _=>[zAn gb (kpC [97]) 94]):=fun gb=>
  kjoin_ct (W:=W) (zAn gb (kpC [97]) 94) (some ⟨gb,0,none⟩) 1 [[97]] (Lv.cells (by simp)) (by simp) (by decide) (by simp)
 have ca:Ct Tryz.prog W 91 [strV aLo] [] (fun _:Unit=>.tuple #[strV aHi,.bool true]) (fun _=>[]):=kafter_ct (W:=W) [2,97,0] 1 (by decide) (by decide)
 have cr:=txrangeQ (W:=W) (t:=t) (m:=m) (r:=r) aLo aHi
 refine Ct.enter Tryz.func48 rfl Tryz.ntmps48 (by simp) (fun R=>?_)
 repeat' (first|(refine zBd ?_;refine zBb rfl (fun g6=>?_))|(refine zAe ?_;first|(refine zAa xE cr xP rfl (fun x=>?_);obtain ⟨x1,x2,x3⟩:=x)|(refine zAa xE ca xP rfl (fun _=>?_))|(refine zAa xE (cj _) xP rfl (fun _=>?_))|(refine zAa xE c1 xP rfl (fun _=>?_)))|(refine zAw ?_;refine zBa rfl xF (by rfl) (by omega) rfl (fun gb=>?_))|(refine ek_mkFunc ?_;refine zAb (Ev_mkFunc1 rfl) ?_)|refine xst ?_|(refine xsa ?_;intro _)|(refine xsb ?_ ?_ <;>intro _<;>try (exfalso;omega))|refine xsc ?_|fail)
 all_goals (exact xdn g6)
end
end Go.Proofs.YtnbgcimalpdfoaaGreatDoor
