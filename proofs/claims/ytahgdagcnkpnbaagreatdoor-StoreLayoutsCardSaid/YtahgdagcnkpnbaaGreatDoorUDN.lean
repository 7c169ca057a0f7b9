/-
  StP2, TxP2.
-/
import Derived.Test.YtahgdagcnkpnbaaGreatDoorUDO
set_option maxHeartbeats 64000000
namespace Go.Proofs.YtahgdagcnkpnbaaGreatDoor
open Go Go.RowKit
theorem nrm_len (l:List BOp):(zBq l).length≤l.length:=by
 induction l with
 |nil=>exact Nat.le_refl _
 |cons o r ih=>
  unfold zBq
  split
  ·rw [List.length_cons];omega
  ·rw [insB_eq]
   have:=atB_le (f:=BOp.key) (zBq r) o.nrm.key
   simp only [List.length_append,List.length_take,List.length_drop,List.length_cons,List.length_nil]
   omega
theorem ap_calmS (at_ ver used:Nat):∀ (ps:List (List UInt8)) (i:Nat) (D:Dsk),Calm D→
 Calm (apGo at_ ver used ps i D).2:=by
 intro ps
 induction ps with
 |nil=>intro i D h;exact h
 |cons q ps ih=>
  intro i D h
  have hc:=(writeD_calm h ((at_:Int)+(used:Nat)+(i:Nat)) (zBh (stampN ver (used+i):Nat) q)).1
  unfold apGo
  split
  ·exact hc
  ·exact ih _ _ hc
theorem ap_rest {D:Dsk} (hr:Rest D) {at_ v used:Nat} {ps:List (List UInt8)} (hp:∀ p ∈ ps,p.length≤234) (hf:at_+used+ps.length≤D.n) :
 (apGo at_ v used ps 0 D).1=true∧(apGo at_ v used ps 0 D).2.off=false∧(apGo at_ v used ps 0 D).2.life=D.life∧(apGo at_ v used ps 0 D).2.und.length=ps.length∧(apGo at_ v used ps 0 D).2.n=D.n∧(apGo at_ v used ps 0 D).2.flushE=0∧
 Rest (apGo at_ v used ps 0 D).2.flushD∧(apGo at_ v used ps 0 D).2.flushD.n=D.n∧(apGo at_ v used ps 0 D).2.flushD.life=D.life∧
 ∀ j,j<D.n→(j<at_+used∨at_+used+ps.length≤j)→(apGo at_ v used ps 0 D).2.flushD.sec j=D.sec j:=by
 obtain ⟨w1,w2,w3,w4,w5⟩:=ap_ways at_ v used ps 0 D hr.calm.1 hr.ok hp (by omega)
 have hc:=ap_calmS at_ v used ps 0 D hr.calm
 obtain ⟨A,hA⟩:∃ A,A=apGo at_ v used ps 0 D:=⟨_,rfl⟩
 rw [← hA] at w1 w2 w3 w4 w5 hc ⊢
 clear hA
 rcases w1 with ⟨a1,a2,a3⟩|⟨_,a2,_⟩
 rotate_left
 ·rw [hc.1] at a2;cases a2
 rw [hr.und,List.nil_append,Nat.add_zero] at a3
 obtain ⟨f1,f2,f3,f4,f5⟩:=flushD_calm hc
 refine ⟨a1,a2,w5,by rw [a3,wsJ_length],w3,f3,⟨f1,f4,Dsk.flushD_ok w4⟩,by rw [f2,w3],by rw [flushD_life,w5],fun j hj hjo=>?_⟩
 unfold Dsk.sec
 rw [f5,a3,w2]
 exact layAll_off D.n j _ _ hr.ok.len fun x hx=>by
  obtain ⟨b1,b2,b3⟩:=wsJ_in at_ v ps used hp x hx
  exact ⟨by omega,by omega,by omega⟩
end Go.Proofs.YtahgdagcnkpnbaaGreatDoor
namespace Go.Proofs.YtahgdagcnkpnbaaGreatDoor
open Go Go.RowKit
def opOf (r0 r:Rows) (k:List UInt8):Option BOp:=match lk r k with
 |some v=>if lk r0 k=some v then none else some ⟨false,k,v⟩
 |none=>bif (lk r0 k).isSome then some ⟨true,k,[]⟩ else none
theorem opOf_need {r0 r:Rows} {k:List UInt8} {x:BOp} (h:opOf r0 r k=some x):x.key=k∧x.nrm=x∧Need r0 r x:=by
 unfold opOf at h
 split at h
 ·rename_i v hv
  split at h
  ·cases h
  ·rename_i hne
   cases h
   exact ⟨rfl,rfl,.inr ⟨rfl,hv,hne⟩⟩
 ·rename_i hv
  cases hs:(lk r0 k).isSome with
  |false=>rw [hs] at h;cases h
  |true=>
   rw [hs] at h
   cases h
   exact ⟨rfl,rfl,.inl ⟨rfl,rfl,hv,hs⟩⟩
theorem need_opOf {r0 r:Rows} {x:BOp} (h:Need r0 r x):opOf r0 r x.key=some x∧lk r x.key≠lk r0 x.key:=by
 obtain ⟨d,k,v⟩:=x
 unfold opOf
 rcases h with ⟨h1,h2,h3,h4⟩|⟨h1,h2,h3⟩
 ·dsimp only at h1 h2 h3 h4 ⊢
  subst h1;subst h2
  rw [h3,h4]
  exact ⟨rfl,fun e=>by rw [← e] at h4;cases h4⟩
 ·dsimp only at h1 h2 h3 ⊢
  subst h1
  rw [h2]
  exact ⟨if_neg h3,fun e=>h3 e.symm⟩
theorem lastOf_from' {l:List BOp} {k:List UInt8} {x:BOp} (h:zBr l k=some x):∃ o ∈ l,o.key=k∧x=o.nrm:=by
 induction l with
 |nil=>cases h
 |cons o l ih=>
  rw [zBr] at h
  cases hl:zBr l k with
  |some y=>
   rw [hl] at h
   obtain ⟨o',h1,h2⟩:=ih (by rw [hl];exact h)
   exact ⟨o',List.mem_cons_of_mem _ h1,h2⟩
  |none=>
   rw [hl] at h
   by_cases e:o.key=k
   ·rw [if_pos e] at h
    cases h
    exact ⟨o,List.mem_cons_self ..,e,rfl⟩
   ·rw [if_neg e] at h;cases h
theorem lastOf_has {l:List BOp} {o:BOp} (h:o ∈ l):∃ x,zBr l o.key=some x:=by
 induction l with
 |nil=>cases h
 |cons p l ih=>
  rw [zBr]
  cases hl:zBr l o.key with
  |some y=>exact ⟨y,rfl⟩
  |none=>
   rcases List.mem_cons.1 h with rfl|h
   ·exact ⟨o.nrm,by rw [if_pos rfl];rfl⟩
   ·obtain ⟨x,hx⟩:=ih h
    rw [hl] at hx;cases hx
theorem ops_between {r0 r:Rows} (h0:RisR r0) (h1:RisR r) {K:List (List UInt8)} (hK:∀ k,lk r k≠lk r0 k→k ∈ K) {l:List BOp} (hl:l.Perm (K.filterMap (opOf r0 r))):zBq l=zAr r0 r:=by
 have hm:∀ x,x ∈ l↔Need r0 r x:=fun x=>by
  rw [hl.mem_iff,List.mem_filterMap]
  constructor
  ·rintro ⟨k,-,hk⟩;exact (opOf_need hk).2.2
  ·intro hx
   obtain ⟨a1,a2⟩:=need_opOf hx
   exact ⟨x.key,hK _ a2,a1⟩
 refine (normD_of (between_rising h0 h1) fun x=>?_).symm
 rw [between_mem h0 h1]
 constructor
 ·intro hx
  obtain ⟨y,hy⟩:=lastOf_has ((hm x).2 hx)
  obtain ⟨o,a1,a2,rfl⟩:=lastOf_from' hy
  have h3:=(need_opOf hx).1
  have h4:=(need_opOf ((hm o).1 a1)).1
  rw [a2,h3] at h4
  cases h4
  rw [hy,(opOf_need h3).2.1]
 ·intro hx
  obtain ⟨o,a1,a2,a3⟩:=lastOf_from' hx
  have h4:=(need_opOf ((hm o).1 a1)).1
  rw [a3,(opOf_need h4).2.1]
  exact (hm o).1 a1
end Go.Proofs.YtahgdagcnkpnbaaGreatDoor
