/-
  TxP2, TxW6, TxW7.
-/
import Derived.Test.YtnbgcimalpdfoaaGreatDoorVEJ
import Derived.Test.YtnbgcimalpdfoaaGreatDoorVFC
set_option maxHeartbeats 64000000
namespace Go.Proofs.YtnbgcimalpdfoaaGreatDoor
open Go Go.RowKit
def opOf (r0 r:Rows) (k:List UInt8):Option BOp:=match lk r k with
 |some v=>if lk r0 k=some v then none else some ⟨false,k,v⟩
 |none=>bif (lk r0 k).isSome then some ⟨true,k,[]⟩ else none
theorem opOf_need {r0 r:Rows} {k:List UInt8} {x:BOp} (h:opOf r0 r k=some x):x.key=k∧x.nrm=x∧Need r0 r x:=by
 unfold opOf at h
 split at h
 ·rename_i v hv
  split at h
  ·cases h
  ·rename_i hne
   cases h
   exact ⟨rfl,rfl,.inr ⟨rfl,hv,hne⟩⟩
 ·rename_i hv
  cases hs:(lk r0 k).isSome with
  |false=>rw [hs] at h;cases h
  |true=>
   rw [hs] at h
   cases h
   exact ⟨rfl,rfl,.inl ⟨rfl,rfl,hv,hs⟩⟩
theorem need_opOf {r0 r:Rows} {x:BOp} (h:Need r0 r x):opOf r0 r x.key=some x∧lk r x.key≠lk r0 x.key:=by
 obtain ⟨d,k,v⟩:=x
 unfold opOf
 rcases h with ⟨h1,h2,h3,h4⟩|⟨h1,h2,h3⟩
 ·dsimp only at h1 h2 h3 h4 ⊢
  subst h1;subst h2
  rw [h3,h4]
  exact ⟨rfl,fun e=>by rw [← e] at h4;cases h4⟩
 ·dsimp only at h1 h2 h3 ⊢
  subst h1
  rw [h2]
  exact ⟨if_neg h3,fun e=>h3 e.symm⟩
theorem lastOf_from' {l:List BOp} {k:List UInt8} {x:BOp} (h:zBu l k=some x):∃ o ∈ l,o.key=k∧x=o.nrm:=by
 induction l with
 |nil=>cases h
 |cons o l ih=>
  rw [zBu] at h
  cases hl:zBu l k with
  |some y=>
   rw [hl] at h
   obtain ⟨o',h1,h2⟩:=ih (by rw [hl];exact h)
   exact ⟨o',List.mem_cons_of_mem _ h1,h2⟩
  |none=>
   rw [hl] at h
   by_cases e:o.key=k
   ·rw [if_pos e] at h
    cases h
    exact ⟨o,List.mem_cons_self ..,e,rfl⟩
   ·rw [if_neg e] at h;cases h
theorem lastOf_has {l:List BOp} {o:BOp} (h:o ∈ l):∃ x,zBu l o.key=some x:=by
 induction l with
 |nil=>cases h
 |cons p l ih=>
  rw [zBu]
  cases hl:zBu l o.key with
  |some y=>exact ⟨y,rfl⟩
  |none=>
   rcases List.mem_cons.1 h with rfl|h
   ·exact ⟨o.nrm,by rw [if_pos rfl];rfl⟩
   ·obtain ⟨x,hx⟩:=ih h
    rw [hl] at hx;cases hx
theorem ops_between {r0 r:Rows} (h0:RisR r0) (h1:RisR r) {K:List (List UInt8)} (hK:∀ k,lk r k≠lk r0 k→k ∈ K) {l:List BOp} (hl:l.Perm (K.filterMap (opOf r0 r))):normD l=between r0 r:=by
 have hm:∀ x,x ∈ l↔Need r0 r x:=fun x=>by
  rw [hl.mem_iff,List.mem_filterMap]
  constructor
  ·rintro ⟨k,-,hk⟩;exact (opOf_need hk).2.2
  ·intro hx
   obtain ⟨a1,a2⟩:=need_opOf hx
   exact ⟨x.key,hK _ a2,a1⟩
 refine (normD_of (between_rising h0 h1) fun x=>?_).symm
 rw [between_mem h0 h1]
 constructor
 ·intro hx
  obtain ⟨y,hy⟩:=lastOf_has ((hm x).2 hx)
  obtain ⟨o,a1,a2,rfl⟩:=lastOf_from' hy
  have h3:=(need_opOf hx).1
  have h4:=(need_opOf ((hm o).1 a1)).1
  rw [a2,h3] at h4
  cases h4
  rw [hy,(opOf_need h3).2.1]
 ·intro hx
  obtain ⟨o,a1,a2,a3⟩:=lastOf_from' hx
  have h4:=(need_opOf ((hm o).1 a1)).1
  rw [a3,(opOf_need h4).2.1]
  exact (hm o).1 a1
end Go.Proofs.YtnbgcimalpdfoaaGreatDoor
namespace Go.Proofs.YtnbgcimalpdfoaaGreatDoor
open Go Go.RowKit
section
variable {W:World} {F:Nat→Addr} {N:List Nd} {a:Option Addr} {r0 r:Rows} {K:List (List UInt8 × Bool)} {U:List UE} {q t s d n m g:Nat} {b:Int} {D:Dsk}
instance fn_txops:FnIs Tryz.prog 96:=⟨by kernel_rfl⟩
instance fn_txcommit:FnIs Tryz.prog 50:=⟨by kernel_rfl⟩
theorem txops_ct (v:Int) (lg:Option Addr) (life:Int) (dead:Bool) (h0:TbOk N a r0) (hn:(K.map (·.1)).Nodup) (hK:∀ k,lk r k≠lk r0 k→k ∈ K.map (·.1)) (hl:K.length*40≤140737488355328) :
 Ct Tryz.prog W 96 [.pointer (some ⟨t,0,none⟩)] [TxP t s r K U false,stP s d q n v lg life dead,tbP q a b,arP N] (fun x:Option Addr × Nat=>.slice x.1 (between r0 r).length x.2)
  (fun x=>[TxP t s r K U false,stP s d q n v lg life dead,tbP q a b,arP N,lsP opC 137 3 (.slice x.1 (between r0 r).length x.2) (between r0 r)]):=by
 refine Ct.enter Tryz.func96 rfl Tryz.ntmps96 (by simp) (fun R=>?_)
 refine KJ.txOpen xS (fun y hT=>?_)
 have hr:=TbOk.ris hT
 repeat' (first|(refine is_range ?_;refine KJ_rangeMap rfl xS rfl (fun it=>?_))|refine xst ?_|(refine xsa ?_;intro _)|(refine xsb ?_ ?_ <;>intro _<;>try (exfalso;omega))|refine xsc ?_|fail)
 refine KJ.nilrow 137 3 ?_
 refine zBe (fun x:{s:List BOp × List (List UInt8 × Bool) × Option (List UInt8 × Bool) × Option Addr × Nat//(s.1++(s.2.1.map (·.1)).filterMap (opOf r0 r)).Perm ((K.map (·.1)).filterMap (opOf r0 r))∧(s.2.1.map (·.1)).Nodup∧s.1.length+s.2.1.length≤K.length}=>[(0,.pointer (some ⟨t,0,none⟩)),(3,.slice x.1.2.2.2.1 x.1.1.length x.1.2.2.2.2),(17,.pointer (some ⟨it,0,none⟩))])
  (fun x=>[iterP strV Value.bool y.m it K x.1.2.1 x.1.2.2.1,lsP opC 137 3 (.slice x.1.2.2.2.1 x.1.1.length x.1.2.2.2.2) x.1.1,zAn t (txC s y U.length false) 128,tbP y.q y.a y.b,arP y.N,lsP ueC 1 1 (.slice y.ua U.length y.uc) U,undoP t U,stP s d q n v lg life dead,tbP q a b,arP N]++R)
  (fun x=>x.1.2.1.length) ⟨([],K,none,none,0),by simp,hn,by simp⟩ xB (xN) (fun ⟨(l,left,cur,a2,c2),hp,hd,hle⟩=>?_)
 dsimp only at hp hd hle ⊢
 have cN:=bnormal_ct (W:=W) (lsP opC 137 3 (.slice a2 l.length c2) l) a2 c2 l (Lv.own enc_op rfl) (by omega)
 repeat' (first|(refine at_seq_region (id:=7) ?_;refine hold ?_)|(refine zAe ?_;refine zAa xE cN xP rfl (fun x=>?_);refine hold ?_)|(refine is_next ?_;refine KJ_nextMap (ty:=0) ky_key rfl xS rfl rfl (fun hz=>?_) (fun p hpm=>?_))|(refine ek_entry ?_;refine zAb (Ev_entry rfl xS) ?_)|refine xst ?_|(refine xsa ?_;intro _)|(refine xsb ?_ ?_ <;>intro _<;>try (exfalso;omega))|refine xsc ?_|fail)
 ·refine Hold.mk ?_
  subst hz
  rw [List.map_nil,List.filterMap_nil,List.append_nil] at hp
  have e:=ops_between (TbOk.ris h0) hr hK hp
  rw [e]
  refine KJ.iterDone xS ?_
  refine KJ.txShut (s:=s) (K:=K) (U:=U) (ended:=false) y hT xP ?_
  repeat' (first|refine xst ?_|(refine xsa ?_;intro _)|(refine xsb ?_ ?_ <;>intro _<;>try (exfalso;omega))|refine xsc ?_|fail)
  all_goals (exact xdn x)
 ·refine Hold.mk ?_
  have hpk:=perm_pickB hd hpm
  have hd2:((left.filter (fun q=>decide (q.1≠p.1))).map (·.1)).Nodup:=(List.filter_sublist.map _).nodup hd
  have hlen:=hpk.length_eq
  rw [List.length_cons] at hlen
  have hp2:((left.map (·.1)).filterMap (opOf r0 r)).Perm ((opOf r0 r p.1).toList++((left.filter (fun q=>decide (q.1≠p.1))).map (·.1)).filterMap (opOf r0 r)):=by
   have:=((hpk.map (·.1)).filterMap (opOf r0 r)).symm
   refine this.trans ?_
   rw [List.map_cons,List.filterMap_cons]
   cases opOf r0 r p.1 <;> exact List.Perm.refl _
  have nextN:opOf r0 r p.1=none→(l++((left.filter (fun q=>decide (q.1≠p.1))).map (·.1)).filterMap (opOf r0 r)).Perm ((K.map (·.1)).filterMap (opOf r0 r)):=fun h=>by
   rw [h] at hp2
   exact (List.Perm.append_left l hp2).symm.trans hp
  have nextS:∀ x,opOf r0 r p.1=some x→((l++[x])++((left.filter (fun q=>decide (q.1≠p.1))).map (·.1)).filterMap (opOf r0 r)).Perm ((K.map (·.1)).filterMap (opOf r0 r)):=fun x h=>by
   rw [h] at hp2
   rw [List.append_assoc]
   exact (List.Perm.append_left l hp2).symm.trans hp
  have b1:(l.length+1)*40≤140737488355328:=by omega
  have b2:l.length+1≤9223372036854775807:=by omega
  have hlt:(left.filter (fun q=>decide (q.1≠p.1))).length<left.length:=by omega
  obtain ⟨left',hleft⟩:∃ x,x=left.filter (fun q=>decide (q.1≠p.1)):=⟨_,rfl⟩
  rw [← hleft] at hd2 hlen nextN nextS hlt ⊢
  have c1:=sget_ct (W:=W) (s:=s) (d:=d) (q:=q) (n:=n) (b:=b) v lg life dead h0 p.1
  have c2':=tget_ct (W:=W) (p:=y.q) (b:=y.b) hT p.1
  obtain ⟨k,kb⟩:=p
  dsimp only at nextN nextS c1 c2' ⊢
  clear hpk hp2 hleft
  cases e1:lk r k with
  |none=>
   rw [e1] at c2'
   cases e0:lk r0 k with
   |none=>
    rw [e0] at c1
    have hx:opOf r0 r k=none:=by unfold opOf;rw [e1,e0];rfl
    repeat' (first|(refine zAe ?_;first|(refine zAa xE c2' xP rfl (fun _=>?_))|(refine zAa xE c1 xP rfl (fun _=>?_)))|(refine ek_entry ?_;refine zAb (Ev_entry rfl xS) ?_)|refine xst ?_|(refine xsa ?_;intro _)|(refine xsb ?_ ?_ <;>intro _<;>try (exfalso;omega))|refine xsc ?_|fail)
    all_goals refine zAr ⟨(l,left',some (k,kb),a2,c2),nextN hx,hd2,by dsimp only;omega⟩ hlt xB (xN)
   |some u=>
    rw [e0] at c1
    have hx:opOf r0 r k=some ⟨true,k,[]⟩:=by unfold opOf;rw [e1,e0];rfl
    repeat' (first|(refine zAe ?_;first|(refine zAa xE c2' xP rfl (fun _=>?_))|(refine zAa xE c1 xP rfl (fun _=>?_)))|(refine zBr ?_;refine zCe (l:=l) (a:=(⟨true,k,[]⟩:BOp)) enc_op rfl rfl rfl xS xS b1 b2 rfl (fun g' c'=>?_))|(refine zAw ?_;refine zBa rfl xF (by rfl) (by omega) rfl (fun gb=>?_))|(refine zBk ?_;refine zAb (zBm xV xW) ?_)|(refine ek_entry ?_;refine zAb (Ev_entry rfl xS) ?_)|refine xst ?_|(refine xsa ?_;intro _)|(refine xsb ?_ ?_ <;>intro _<;>try (exfalso;omega))|refine xsc ?_|fail)
    all_goals refine zAr ⟨(l++[⟨true,k,[]⟩],left',some (k,kb),some ⟨g',0,none⟩,c'),nextS _ hx,hd2,by dsimp only;rw [List.length_append,List.length_singleton];omega⟩ hlt xB (xN)
  |some w=>
   rw [e1] at c2'
   cases e0:lk r0 k with
   |none=>
    rw [e0] at c1
    have hx:opOf r0 r k=some ⟨false,k,w⟩:=by unfold opOf;rw [e1,e0];rfl
    repeat' (first|(refine zAe ?_;first|(refine zAa xE c2' xP rfl (fun _=>?_))|(refine zAa xE c1 xP rfl (fun _=>?_)))|(refine zBr ?_;refine zCe (l:=l) (a:=(⟨false,k,w⟩:BOp)) enc_op rfl rfl rfl xS xS b1 b2 rfl (fun g' c'=>?_))|(refine zAw ?_;refine zBa rfl xF (by rfl) (by omega) rfl (fun gb=>?_))|(refine zBk ?_;refine zAb (zBm xV xW) ?_)|(refine ek_entry ?_;refine zAb (Ev_entry rfl xS) ?_)|refine xst ?_|(refine xsa ?_;intro _)|(refine xsb ?_ ?_ <;>intro _<;>try (exfalso;omega))|refine xsc ?_|fail)
    all_goals refine zAr ⟨(l++[⟨false,k,w⟩],left',some (k,kb),some ⟨g',0,none⟩,c'),nextS _ hx,hd2,by dsimp only;rw [List.length_append,List.length_singleton];omega⟩ hlt xB (xN)
   |some u=>
    rw [e0] at c1
    by_cases huw:u=w
    ·have hx:opOf r0 r k=none:=by unfold opOf;rw [e1,e0,huw];exact if_pos rfl
     repeat' (first|(refine zAe ?_;first|(refine zAa xE c2' xP rfl (fun _=>?_))|(refine zAa xE c1 xP rfl (fun _=>?_)))|(refine ek_entry ?_;refine zAb (Ev_entry rfl xS) ?_)|(refine zBc ?_;refine zAb (Ev_neqS_f rfl rfl huw) ?_)|refine xst ?_|(refine xsa ?_;intro _)|(refine xsb ?_ ?_ <;>intro _<;>try (exfalso;omega))|refine xsc ?_|fail)
     all_goals refine zAr ⟨(l,left',some (k,kb),a2,c2),nextN hx,hd2,by dsimp only;omega⟩ hlt xB (xN)
    ·have hx:opOf r0 r k=some ⟨false,k,w⟩:=by unfold opOf;rw [e1,e0];exact if_neg (fun h=>huw (Option.some.inj h))
     repeat' (first|(refine zAe ?_;first|(refine zAa xE c2' xP rfl (fun _=>?_))|(refine zAa xE c1 xP rfl (fun _=>?_)))|(refine zBr ?_;refine zCe (l:=l) (a:=(⟨false,k,w⟩:BOp)) enc_op rfl rfl rfl xS xS b1 b2 rfl (fun g' c'=>?_))|(refine zAw ?_;refine zBa rfl xF (by rfl) (by omega) rfl (fun gb=>?_))|(refine zBk ?_;refine zAb (zBm xV xW) ?_)|(refine ek_entry ?_;refine zAb (Ev_entry rfl xS) ?_)|(refine zBc ?_;refine zAb (Ev_neqS_t rfl rfl huw) ?_)|refine xst ?_|(refine xsa ?_;intro _)|(refine xsb ?_ ?_ <;>intro _<;>try (exfalso;omega))|refine xsc ?_|fail)
     all_goals refine zAr ⟨(l++[⟨false,k,w⟩],left',some (k,kb),some ⟨g',0,none⟩,c'),nextS _ hx,hd2,by dsimp only;rw [List.length_append,List.length_singleton];omega⟩ hlt xB (xN)
end
end Go.Proofs.YtnbgcimalpdfoaaGreatDoor
namespace Go.Proofs.YtnbgcimalpdfoaaGreatDoor
open Go Go.RowKit
theorem mem_keys_lk {K:List (List UInt8 × Bool)} {k:List UInt8}:k ∈ K.map (·.1)↔(lk K k).isSome=true:=by
 constructor
 ·intro h
  obtain ⟨p,hp,e⟩:=List.mem_map.1 h
  cases hl:lk K k with
  |some v=>rfl
  |none=>exact absurd e (lk_none.1 hl p hp)
 ·intro h
  obtain ⟨v,hv⟩:=Option.isSome_iff_exists.1 h
  exact List.mem_map.2 ⟨_,lk_mem hv,rfl⟩
theorem mput_len (K:List (List UInt8 × Bool)) (k:List UInt8) (b:Bool):(mput K k b).length≤K.length+1:=by
 unfold mput
 split
 ·rw [List.length_map];omega
 ·rw [List.length_append];exact Nat.le_refl _
structure TxK (r0 r:Rows) (m:Nat) (K:List (List UInt8 × Bool)) (U:List UE):Prop where
 ul:U.length≤m
 kl:K.length≤m
 nd:(K.map (·.1)).Nodup
 all:∀ k,lk r k≠lk r0 k→k ∈ K.map (·.1)
theorem TxK.step {r0 r r':Rows} {m:Nat} {K:List (List UInt8 × Bool)} {U:List UE} (h:TxK r0 r m K U) (e:UE) (key:List UInt8) (hr:∀ k,k≠key→lk r' k=lk r k):TxK r0 r' (m+1) (mput K key true) (U++[e]):=
 ⟨by rw [List.length_append];exact Nat.succ_le_succ h.ul,Nat.le_trans (mput_len _ _ _) (Nat.succ_le_succ h.kl),mput_nodup h.nd _ _,fun k hk=>by
  rw [mem_keys_lk,lk_put]
  by_cases e:k=key
  ·rw [if_pos e];rfl
  ·rw [if_neg e]
   rw [hr k e] at hk
   exact mem_keys_lk.1 (h.all k hk)⟩
def TxS (t s:Nat) (r0 r:Rows) (m:Nat):SP:=packP 86 t (fun x:{x:List (List UInt8 × Bool) × List UE//TxK r0 r m x.1 x.2}=>[TxP t s r x.1.1 x.1.2 false])
theorem TxS.star {t s m:Nat} {r0 r:Rows} {K:List (List UInt8 × Bool)} {U:List UE} (h:TxK r0 r m K U) {R:List SP}:∀ g,zBq (TxP t s r K U false::R) g→zBq (TxS t s r0 r m::R) g:=fun g q=>
 pack_star (F:=fun x:{x:List (List UInt8 × Bool) × List UE//TxK r0 r m x.1 x.2}=>[TxP t s r x.1.1 x.1.2 false]) ⟨(K,U),h⟩ g q
section
variable {W:World} {F:Nat→Addr} {N:List Nd} {a:Option Addr} {r0 r:Rows} {q t s d n m g:Nat} {b:Int} {D:Dsk}
theorem txgetS (key:List UInt8):Ct Tryz.prog W 24 [.pointer (some ⟨t,0,none⟩),strV key] [TxS t s r0 r m] (fun _:Unit=>.tuple #[strV ((lk r key).getD []),.bool (lk r key).isSome]) (fun _=>[TxS t s r0 r m]):=by
 refine Ct_unpack (Hs:=[]) fun ⟨(K,U),hU⟩=>?_
 exact (txget_ct (W:=W) key).to id (fun _=>rfl) (fun _ R g q=>TxS.star hU g q)
theorem txputS (hr:RisR r) (key val:List UInt8) (hl:r.length≤288230376151711744) (hm:(m+1)*8≤140737488355328):Ct Tryz.prog W 22 [.pointer (some ⟨t,0,none⟩),strV key,strV val] [TxS t s r0 r m] (fun _:Unit=>.nilIface) (fun _=>[TxS t s r0 (putR r key val) (m+1)]):=by
 refine Ct_unpack (Hs:=[]) fun ⟨(K,U),hU⟩=>?_
 dsimp only at hU ⊢
 have hu:=hU.ul
 exact (txput_ct (W:=W) key val hl (by omega)).to (fun _=>()) (fun _=>rfl) (fun _ R g q=>TxS.star (hU.step _ key (fun k hk=>by rw [lk_putR hr,if_neg hk])) g q)
theorem txdropS:Ct Tryz.prog W 23 [.pointer (some ⟨t,0,none⟩)] [TxS t s r0 r m] (fun _:Unit=>.tuple #[]) (fun _=>[TxQ t r true m]):=by
 refine Ct_unpack (Hs:=[]) fun ⟨(K,U),hU⟩=>?_
 exact (txdrop_ct (W:=W)).to id (fun _=>rfl) (fun _ R g q=>TxQ.star hU.ul g q)
theorem txcommit_ct (hE8:ErrsOn L8 W F) (e17:W.cell? ⟨13,0,none⟩=some (errV F 17)) (hN:NibAt W) (h1:64≤n) (h2:n≤65536) (v used:Nat) (hv:1≤v∧v≤1099511627776) (hD:Rest D) (hn:D.n=n) (hT:TbOk N a r0) (hr:RisR r) (hm:m≤100000000) (hl:r0.length≤100000000)
 (hne:between r0 r≠[]) (hbl:(between r0 r).length≤100000000) (rec_:List UInt8) (henc:encode (between r0 r)=(rec_,0)) (hrec:(encAll (between r0 r)).length+64≤140737488355328) (hsz:rec_.length≤1048576) (hlg:(rec_.length:Int)≤largestI (logN n:Nat)) (hfit:used+(pcsJ rec_).length≤logN n) (hroom:(snapB r).length≤234*layA n) :
 Ct Tryz.prog W 50 [.pointer (some ⟨t,0,none⟩)] [TxS t s r0 r m,stP s d q n (v:Nat) (some ⟨g,0,none⟩) D.life false,DiskP d D,tbP q a b,arP N,jouU g d n v used D.life]
  (fun _:TbQ N r=>.nilIface)
  (fun x=>[TxQ t r true m,stP s d q n (v:Nat) (some ⟨g,0,none⟩) D.life false,DiskP d (apGo (logAt n:Nat) v used (pcsJ rec_) 0 D).2.flushD,tbP q x.1.2.1 x.1.2.2,arP x.1.1,jouU g d n v (used+(pcsJ rec_).length) D.life]):=by
 refine Ct_unpack fun ⟨(K,U),hU⟩=>?_
 dsimp only at hU ⊢
 have hkl:=hU.kl
 have h0:=TbOk.ris hT
 have hnb:normD (between r0 r)=between r0 r:=by rw [← between_prog h0 hr,normD_idem]
 have hap:applyB r0 (between r0 r)=r:=between_apply h0 hr
 have co:=txops_ct (W:=W) (t:=t) (s:=s) (d:=d) (q:=q) (n:=n) (b:=b) (U:=U) (v:Nat) (some ⟨g,0,none⟩) D.life false hT hU.nd hU.all (by omega)
 have cc:=fun xa xc=>scommit_ct (W:=W) (F:=F) (s:=s) (d:=d) (q:=q) (n:=n) (g:=g) (b:=b) hE8 e17 hN h1 h2 v used hv hD hn hT _ xa xc (between r0 r) (Lv.own (e:=137) (c:=xc) enc_op rfl) (by omega) (by rw [hnb];exact hne) (by omega) rec_ (by rw [hnb];exact henc) (by rw [hnb];exact hrec) hsz hlg hfit (by rw [hnb,hap];exact hroom)
 rw [hnb,hap] at cc
 have hpos:=List.length_pos_iff.2 hne
 obtain ⟨os,hos⟩:∃ os,os=between r0 r:=⟨_,rfl⟩
 rw [← hos] at co cc hpos
 have q0:decide (((os.length:Nat):Int)=0)=false:=decide_eq_false (by omega)
 obtain ⟨D2,hD2⟩:∃ D2,D2=(apGo (logAt n:Nat) v used (pcsJ rec_) 0 D).2.flushD:=⟨_,rfl⟩
 rw [← hD2] at cc ⊢
 obtain ⟨u2,hu2⟩:∃ u,u=used+(pcsJ rec_).length:=⟨_,rfl⟩
 rw [← hu2] at cc ⊢
 clear hD2 hu2
 have hul:=hU.ul
 refine Ct.to (X:=TbQ N r) (H':=fun x=>[TxP t s r K U true,stP s d q n (v:Nat) (some ⟨g,0,none⟩) D.life false,DiskP d D2,tbP q x.1.2.1 x.1.2.2,arP x.1.1,jouU g d n v u2 D.life]) ?_ id (fun _=>rfl) (fun x R g q=>TxQ.star hul g q)
 refine Ct.enter Tryz.func50 rfl Tryz.ntmps50 (by simp) (fun R=>?_)
 apply KJ_rest (fun Kc=>∀ xa xc,KJ W 23 Kc [(0,.pointer (some ⟨t,0,none⟩)),(3,.slice xa os.length xc)]
  ([TxP t s r K U false,stP s d q n (v:Nat) (some ⟨g,0,none⟩) D.life false,DiskP d D,tbP q a b,arP N,jouU g d n v used D.life,lsP opC 137 3 (.slice xa os.length xc) os]++R))
 ·intro rest
  refine KJ.txOpen xS (fun y hT1=>?_)
  repeat' (first|(refine at_seq_region (id:=3) ?_;refine KJ.txShut (s:=s) (K:=K) (U:=U) (ended:=false) y hT1 xP ?_;refine hold ?_)|refine xst ?_|(refine xsa ?_;intro _)|(refine xsb ?_ ?_ <;>intro _<;>try (exfalso;omega))|refine xsc ?_|fail)
  refine Hold.mk ?_
  repeat' (first|(refine at_seq_region (id:=4) ?_;exact KJ.weak (rest _ _) xB (xN))|(refine zAe ?_;refine zAa xE co xP rfl (fun x=>?_);obtain ⟨xa,xc⟩:=x)|refine xst ?_|(refine xsa ?_;intro _)|(refine xsb ?_ ?_ <;>intro _<;>try (exfalso;omega))|refine xsc ?_|fail)
 intro xa xc
 refine KJ.txOpen xS (fun y hT1=>?_)
 repeat' (first|(refine zAe ?_;refine zAa xE (cc _ _) xP rfl (fun z=>?_))|(refine zAx ?_;refine zAb (zAf rfl rfl q0) ?_)|refine xst ?_|(refine xsa ?_;intro _)|(refine xsb ?_ ?_ <;>intro _<;>try (exfalso;omega))|refine xsc ?_|fail)
 all_goals refine KJ.txShut (s:=s) (K:=K) (U:=U) (ended:=true) y hT1 xP ?_
 all_goals (exact xdn z)
end
end Go.Proofs.YtnbgcimalpdfoaaGreatDoor
