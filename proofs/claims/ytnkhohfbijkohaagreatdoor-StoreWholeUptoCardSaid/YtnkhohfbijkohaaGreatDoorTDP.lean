/-
  StP2, TxP2.
-/
import Derived.Test.YtnkhohfbijkohaaGreatDoorTDQ
set_option maxHeartbeats 64000000
namespace Go.Proofs.YtnkhohfbijkohaaGreatDoor
open Go Go.RowKit
theorem nrm_len (l:List BOp):(zAr l).length≤l.length:=by
 induction l with
 |nil=>exact Nat.le_refl _
 |cons o r ih=>
  unfold zAr
  split
  ·rw [List.length_cons];omega
  ·rw [insB_eq]
   have:=atB_le (f:=BOp.key) (zAr r) o.nrm.key
   simp only [List.length_append,List.length_take,List.length_drop,List.length_cons,List.length_nil]
   omega
theorem ap_calmS (at_ ver used:Nat):∀ (ps:List (List UInt8)) (i:Nat) (D:Dsk),Calm D→
 Calm (apGo at_ ver used ps i D).2:=by
 intro ps
 induction ps with
 |nil=>intro i D h;exact h
 |cons q ps ih=>
  intro i D h
  have hc:=(writeD_calm h ((at_:Int)+(used:Nat)+(i:Nat)) (zAw (zAz ver (used+i):Nat) q)).1
  unfold apGo
  split
  ·exact hc
  ·exact ih _ _ hc
theorem ap_rest {D:Dsk} (hr:Rest D) {at_ v used:Nat} {ps:List (List UInt8)} (hp:∀ p ∈ ps,p.length≤234) (hf:at_+used+ps.length≤D.n) :
 (apGo at_ v used ps 0 D).1=true∧(apGo at_ v used ps 0 D).2.off=false∧(apGo at_ v used ps 0 D).2.life=D.life∧(apGo at_ v used ps 0 D).2.und.length=ps.length∧(apGo at_ v used ps 0 D).2.n=D.n∧(apGo at_ v used ps 0 D).2.flushE=0∧
 Rest (apGo at_ v used ps 0 D).2.flushD∧(apGo at_ v used ps 0 D).2.flushD.n=D.n∧(apGo at_ v used ps 0 D).2.flushD.life=D.life∧
 ∀ j,j<D.n→(j<at_+used∨at_+used+ps.length≤j)→(apGo at_ v used ps 0 D).2.flushD.sec j=D.sec j:=by
 obtain ⟨w1,w2,w3,w4,w5⟩:=ap_ways at_ v used ps 0 D hr.calm.1 hr.ok hp (by omega)
 have hc:=ap_calmS at_ v used ps 0 D hr.calm
 obtain ⟨A,hA⟩:∃ A,A=apGo at_ v used ps 0 D:=⟨_,rfl⟩
 rw [← hA] at w1 w2 w3 w4 w5 hc ⊢
 clear hA
 rcases w1 with ⟨a1,a2,a3⟩|⟨_,a2,_⟩
 rotate_left
 ·rw [hc.1] at a2;cases a2
 rw [hr.und,List.nil_append,Nat.add_zero] at a3
 obtain ⟨f1,f2,f3,f4,f5⟩:=flushD_calm hc
 refine ⟨a1,a2,w5,by rw [a3,wsJ_length],w3,f3,⟨f1,f4,Dsk.flushD_ok w4⟩,by rw [f2,w3],by rw [flushD_life,w5],fun j hj hjo=>?_⟩
 unfold Dsk.sec
 rw [f5,a3,w2]
 exact layAll_off D.n j _ _ hr.ok.len fun x hx=>by
  obtain ⟨b1,b2,b3⟩:=wsJ_in at_ v ps used hp x hx
  exact ⟨by omega,by omega,by omega⟩
end Go.Proofs.YtnkhohfbijkohaaGreatDoor
namespace Go.Proofs.YtnkhohfbijkohaaGreatDoor
open Go Go.RowKit
theorem lastOf_from' {l:List BOp} {k:List UInt8} {x:BOp} (h:zBy l k=some x):∃ o ∈ l,o.key=k∧x=o.nrm:=by
 induction l with
 |nil=>cases h
 |cons o l ih=>
  rw [zBy] at h
  cases hl:zBy l k with
  |some y=>
   rw [hl] at h
   obtain ⟨o',h1,h2⟩:=ih (by rw [hl];exact h)
   exact ⟨o',List.mem_cons_of_mem _ h1,h2⟩
  |none=>
   rw [hl] at h
   by_cases e:o.key=k
   ·rw [if_pos e] at h
    cases h
    exact ⟨o,List.mem_cons_self ..,e,rfl⟩
   ·rw [if_neg e] at h;cases h
theorem lastOf_has {l:List BOp} {o:BOp} (h:o ∈ l):∃ x,zBy l o.key=some x:=by
 induction l with
 |nil=>cases h
 |cons p l ih=>
  rw [zBy]
  cases hl:zBy l o.key with
  |some y=>exact ⟨y,rfl⟩
  |none=>
   rcases List.mem_cons.1 h with rfl|h
   ·exact ⟨o.nrm,by rw [if_pos rfl];rfl⟩
   ·obtain ⟨x,hx⟩:=ih h
    rw [hl] at hx;cases hx
end Go.Proofs.YtnkhohfbijkohaaGreatDoor
