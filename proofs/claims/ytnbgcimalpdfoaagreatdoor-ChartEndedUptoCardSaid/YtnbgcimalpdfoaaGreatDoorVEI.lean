/-
  BaN1.
-/
import Derived.Test.YtnbgcimalpdfoaaGreatDoorVEY
import Derived.Test.YtnbgcimalpdfoaaGreatDoorVEG
import Derived.Test.YtnbgcimalpdfoaaGreatDoorVEH
import Derived.Deep.QuietTactic
set_option maxHeartbeats 64000000
namespace Go.Proofs.YtnbgcimalpdfoaaGreatDoor
open Go Go.RowKit Go.Shelf Go.Lib Go.Sort
def ltKey (a b:BOp):Bool:=Op.bytesLess a.key b.key
theorem MapOk.norm {ops:List BOp} {m:BMap} (h:MapOk ops m) {l:List BOp} (hp:l.Perm (m.map (·.2))) (hs:l.Pairwise fun x y=>ltKey y x=false):l=normD ops:=by
 have hk:∀ p ∈ m,p.2.key=p.1:=fun p hp=>by
  have:=lk_of h.1 hp
  rw [h.2] at this
  exact (lastOf_some this).1
 have hm:(m.map (·.2)).map BOp.key=m.map (·.1):=by
  rw [List.map_map]
  exact List.map_congr_left hk
 refine normD_of (rising_sorted hs ?_) fun x=>?_
 ·have:=(hp.map BOp.key).nodup_iff
  rw [this,hm];exact h.1
 ·rw [hp.mem_iff,← h.2]
  constructor
  ·intro hx
   obtain ⟨p,h1,rfl⟩:=List.mem_map.1 hx
   rw [hk p h1]
   exact lk_of h.1 h1
  ·intro hx
   exact List.mem_map.2 ⟨_,lk_mem hx,rfl⟩
theorem swo_key:SWO ltKey where
 irrefl:=fun x=>tl_irr _
 trans:=fun x y z h1 h2=>tl_tr h1 h2
 ntrans:=fun x y z h1 h2=>by
  unfold ltKey at *
  by_cases e:x.key=y.key
  ·rw [e];exact h2
  ·by_cases e2:y.key=z.key
   ·rw [← e2];exact h1
   ·exact tl_asym (tl_tr (tl_not h2 e2) (tl_not h1 e))
noncomputable def opsT:TypeInfo:=(Tryz.prog.info? 138).get (by kernel_rfl)
noncomputable def opT:TypeInfo:=(Tryz.prog.info? 137).get (by kernel_rfl)
theorem less_op (bs:Nat):LessOk Tryz.prog 194 bs 3 opC ltKey:=by
 intro w blk c d hH hs hsz i j hi hj
 have ci:=(hH.cell (i:=i) (c:=1) hi (by omega)).1
 have cj:=(hH.cell (i:=j) (c:=1) hj (by omega)).1
 have ei:(opC d[i]!)[1]! = strV d[i]!.key:=rfl
 have ej:(opC d[j]!)[1]! = strV d[j]!.key:=rfl
 rw [ei,Nat.zero_add] at ci
 rw [ej,Nat.zero_add] at cj
 go_enter Tryz.func194,Tryz.ntmps194
 go_wp2
 go_quiet (fail)
 go_wp2
 go_ret
 exact ⟨by simp [ltKey,hi,hj],nq,rfl⟩
theorem sort_op {W:World} (bs T:Nat) (l:List BOp) (hl:l.length<4611686018427387904) (v:Value) :
 Ct Tryz.prog W 193 [.iface 138 v,.func (.func 194) #[] #[.pointer (some ⟨bs,0,none⟩)]] [zAn bs [v] T,lsP opC 137 3 v l]
  (fun _:{l':List BOp//l'.Perm l∧l'.Pairwise fun x y=>ltKey y x=false}=>.tuple #[]) (fun x=>[zAn bs [v] T,lsP opC 137 3 v x.1]):=by
 have h:=sort_ct (W:=W) Tryz.sl6 138 137 opsT opT (by kernel_rfl) (by kernel_rfl) (by kernel_rfl) (by kernel_rfl) 25 (fun _=>by kernel_rfl) opC 3 (fun _=>rfl) (by kernel_rfl) (fun _=>by kernel_rfl)
  (fun x v hv=>by simp [opC] at hv;rcases hv with rfl|rfl|rfl <;> rfl) ltKey swo_key 194
  (enters_of Tryz.func194 (by kernel_rfl) rfl)
  (swaps_of (a:=234) (b:=235) (f:=242) (k:=9) (gS:=false) (by kernel_rfl) (by kernel_rfl) (by kernel_rfl) (by kernel_rfl)
   (fun args W=>run_callFunc_extern Tryz.func242 (by kernel_rfl) (by kernel_rfl) (by kernel_rfl) (e:=Extern.ReflectliteSwapper.swap false) (by kernel_rfl) args W))
  bs T (less_op bs) l hl v
 refine ⟨fun R w s=>(h.go R w s).mono fun e w' ⟨x,he,st⟩=>⟨x,he,?_⟩⟩
 have hp:=x.2.1.length_eq
 unfold lsP
 rw [hp]
 exact st
section
variable {W:World}
theorem bnormal_ct (A:SP) (a:Option Addr) (c:Nat) (ops:List BOp) (hL:Lv W opC 3 A a ops) (hl:ops.length*40≤140737488355328):Ct Tryz.prog W 142 [.slice a ops.length c] [A] (fun x:Option Addr × Nat=>.slice x.1 (normD ops).length x.2) (fun x=>[A,lsP opC 137 3 (.slice x.1 (normD ops).length x.2) (normD ops)]):=by
 refine Ct.enter Tryz.func142 rfl Tryz.ntmps142 (by simp) (fun R=>?_)
 repeat' (first|(refine is_mkMap ?_;refine KJ_makeMap strV opV rfl (fun mb=>?_))|refine xst ?_|(refine xsa ?_;intro _)|(refine xsb ?_ ?_ <;>intro _<;>try (exfalso;omega))|refine xsc ?_|fail)
 refine zBe (fun i:{i:Nat × BMap//i.1≤ops.length∧MapOk (ops.take i.1) i.2}=>[(3,.map (some mb)),(10,.slice a ops.length c),(11,.int .i64 (ops.length:Nat)),(12,.int .i64 (i.1.1:Nat))])
  (fun i=>[A,mapP strV opV mb i.1.2]++R) (fun i=>ops.length-i.1.1) ⟨(0,[]),Nat.zero_le _,MapOk.nil⟩ xB (xN) (fun ⟨(i,m),hi,hm⟩=>?_)
 dsimp only at hi hm ⊢
 by_cases hlt:i<ops.length
 ·have ql:decide ((i:Int)<(ops.length:Nat))=true:=decide_eq_true (by omega)
  obtain ⟨o,ho⟩:∃ s,ops[i]? = some s:=⟨_,List.getElem?_eq_getElem hlt⟩
  refine KJ.lvSome hL xS (by omega) (fun b of hab=>?_)
  subst hab
  have hoff:of+Int.toNat (i:Int)*3=of+i*3:=by simp
  have hm2:MapOk (ops.take (i+1)) (mput m o.key o.nrm):=by
   rw [List.take_add_one,ho];exact hm.put o
  obtain ⟨del,key,val⟩:=o
  cases del with
  |true=>
   repeat' (first|(refine zBd ?_;refine zBb rfl (fun g5=>?_))|(refine is_mapUpdate ?_;refine KJ_mapUpdate (v:=(⟨true,key,[]⟩:BOp)) ky_key rfl rfl rfl xS ?_)|(refine zAp ?_;refine zAb (zBt enc_op hL rfl rfl xS hoff ho) ?_)|(refine zAu ?_;refine zAb (zAh (r:=((i+1:Nat):Int)) rfl rfl (by omega) (by omega)) ?_)|(refine zAi ?_;refine zAb (zAd rfl rfl ql) ?_)|refine xst ?_|(refine xsa ?_;intro _)|(refine xsb ?_ ?_ <;>intro _<;>try (exfalso;omega))|refine xsc ?_|fail)
   all_goals refine zAr ⟨(i+1,mput m key ⟨true,key,[]⟩),hlt,hm2⟩ (by show ops.length-(i+1)<ops.length-i;omega) xB (xN)
  |false=>
   repeat' (first|(refine zBd ?_;refine zBb rfl (fun g5=>?_))|(refine is_mapUpdate ?_;refine KJ_mapUpdate (v:=(⟨false,key,val⟩:BOp)) ky_key rfl rfl rfl xS ?_)|(refine zAp ?_;refine zAb (zBt enc_op hL rfl rfl xS hoff ho) ?_)|(refine zAu ?_;refine zAb (zAh (r:=((i+1:Nat):Int)) rfl rfl (by omega) (by omega)) ?_)|(refine zAi ?_;refine zAb (zAd rfl rfl ql) ?_)|refine xst ?_|(refine xsa ?_;intro _)|(refine xsb ?_ ?_ <;>intro _<;>try (exfalso;omega))|refine xsc ?_|fail)
   all_goals refine zAr ⟨(i+1,mput m key ⟨false,key,val⟩),hlt,hm2⟩ (by show ops.length-(i+1)<ops.length-i;omega) xB (xN)
 have ql:decide ((i:Int)<(ops.length:Nat))=false:=decide_eq_false (by omega)
 rw [List.take_of_length_le (by omega)] at hm
 have htl:=hm.len
 repeat' (first|(refine zBd ?_;refine zBb rfl (fun gl=>?_))|(refine is_range ?_;refine KJ_rangeMap rfl xS rfl (fun it=>?_))|(refine zAi ?_;refine zAb (zAd rfl rfl ql) ?_)|refine xst ?_|(refine xsa ?_;intro _)|(refine xsb ?_ ?_ <;>intro _<;>try (exfalso;omega))|refine xsc ?_|fail)
 refine KJ.nilrow 137 3 ?_
 refine zBe (fun _:{s:List BOp × BMap × Option (List UInt8 × BOp) × Option Addr × Nat//(s.1++s.2.1.map (·.2)).Perm (m.map (·.2))∧(s.2.1.map (·.1)).Nodup}=>[(6,.pointer (some ⟨gl,0,none⟩)),(25,.pointer (some ⟨it,0,none⟩))])
  (fun i=>[iterP strV opV mb it m i.1.2.1 i.1.2.2.1,zAn gl [.slice i.1.2.2.2.1 i.1.1.length i.1.2.2.2.2] 138,lsP opC 137 3 (.slice i.1.2.2.2.1 i.1.1.length i.1.2.2.2.2) i.1.1,A]++R)
  (fun i=>i.1.2.1.length) ⟨([],m,none,none,0),by simp,hm.1⟩ xB (xN) (fun ⟨(l,left,cur,a2,c2),hp,hn⟩=>?_)
 dsimp only at hp hn ⊢
 have hlen:=hp.length_eq
 simp only [List.length_append,List.length_map] at hlen
 have hso:=sort_op (W:=W) gl 138 l (by omega) (.slice a2 l.length c2)
 have hlp:∀ p,p ∈ left→(l.length+1)*40≤140737488355328∧l.length+1≤9223372036854775807:=fun p h=>by
  have:=List.length_pos_of_mem h
  omega
 repeat' (first|(refine zAe ?_;refine zAa xE hso xP rfl (fun x=>?_))|(refine zBr ?_;refine zCe (a:=p.2) enc_op rfl rfl rfl xS xS (hlp p hpm).1 (hlp p hpm).2 rfl (fun g' c'=>?_))|(refine zAw ?_;refine zBa rfl xF (by rfl) (by omega) rfl (fun gb=>?_))|(refine is_next ?_;refine KJ_nextMap (ty:=0) ky_key rfl xS rfl rfl (fun hz=>?_) (fun p hpm=>?_))|(refine ek_mkFunc ?_;refine zAb (Ev_mkFunc (us:=[]) (vs:=[.pointer (some ⟨gl,0,none⟩)]) xE xE rfl) ?_)|(refine ek_entry ?_;refine zAb (Ev_entry rfl xS) ?_)|refine xst ?_|(refine xsa ?_;intro _)|(refine xsb ?_ ?_ <;>intro _<;>try (exfalso;omega))|refine xsc ?_|fail)
 ·subst hz
  obtain ⟨l',hp',hs'⟩:=x
  dsimp only
  rw [List.map_nil,List.append_nil] at hp
  obtain rfl:l'=normD ops:=hm.norm (hp'.trans hp) hs'
  rw [← hp'.length_eq]
  (exact xdn (a2,c2))
 ·refine zAr ⟨(l++[p.2],left.filter (fun q=>decide (q.1≠p.1)),some p,some ⟨g',0,none⟩,c'),?_,?_⟩ ?_ xB (xN)
  ·have:=(perm_pickB hn hpm).map (·.2)
   rw [List.append_assoc]
   exact (List.Perm.append_left l this).trans hp
  ·exact (List.filter_sublist.map _).nodup hn
  ·have:=(perm_pickB hn hpm).length_eq
   show (left.filter (fun q=>decide (q.1≠p.1))).length<left.length
   simp only [List.length_cons] at this
   omega
end
end Go.Proofs.YtnbgcimalpdfoaaGreatDoor
