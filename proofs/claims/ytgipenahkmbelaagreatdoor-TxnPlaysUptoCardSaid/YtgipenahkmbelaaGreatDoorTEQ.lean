/-
  StP2, StP3, StP4, TxP2, StP5.
-/
import Derived.Test.YtgipenahkmbelaaGreatDoorTDS
set_option maxHeartbeats 64000000
namespace Go.Proofs.YtgipenahkmbelaaGreatDoor
open Go Go.RowKit
theorem nrm_len (l:List BOp):(zBy l).length≤l.length:=by
 induction l with
 |nil=>exact Nat.le_refl _
 |cons o r ih=>
  unfold zBy
  split
  ·rw [List.length_cons];omega
  ·rw [insB_eq]
   have:=atB_le (f:=BOp.key) (zBy r) o.nrm.key
   simp only [List.length_append,List.length_take,List.length_drop,List.length_cons,List.length_nil]
   omega
theorem ap_calmS (at_ ver used:Nat):∀ (ps:List (List UInt8)) (i:Nat) (D:Dsk),Calm D→
 Calm (apGo at_ ver used ps i D).2:=by
 intro ps
 induction ps with
 |nil=>intro i D h;exact h
 |cons q ps ih=>
  intro i D h
  have hc:=(writeD_calm h ((at_:Int)+(used:Nat)+(i:Nat)) (zBs (stampN ver (used+i):Nat) q)).1
  unfold apGo
  split
  ·exact hc
  ·exact ih _ _ hc
theorem ap_rest {D:Dsk} (hr:Rest D) {at_ v used:Nat} {ps:List (List UInt8)} (hp:∀ p ∈ ps,p.length≤234) (hf:at_+used+ps.length≤D.n) :
 (apGo at_ v used ps 0 D).1=true∧(apGo at_ v used ps 0 D).2.off=false∧(apGo at_ v used ps 0 D).2.life=D.life∧(apGo at_ v used ps 0 D).2.und.length=ps.length∧(apGo at_ v used ps 0 D).2.n=D.n∧(apGo at_ v used ps 0 D).2.flushE=0∧
 Rest (apGo at_ v used ps 0 D).2.flushD∧(apGo at_ v used ps 0 D).2.flushD.n=D.n∧(apGo at_ v used ps 0 D).2.flushD.life=D.life∧
 ∀ j,j<D.n→(j<at_+used∨at_+used+ps.length≤j)→(apGo at_ v used ps 0 D).2.flushD.sec j=D.sec j:=by
 obtain ⟨w1,w2,w3,w4,w5⟩:=ap_ways at_ v used ps 0 D hr.calm.1 hr.ok hp (by omega)
 have hc:=ap_calmS at_ v used ps 0 D hr.calm
 obtain ⟨A,hA⟩:∃ A,A=apGo at_ v used ps 0 D:=⟨_,rfl⟩
 rw [← hA] at w1 w2 w3 w4 w5 hc ⊢
 clear hA
 rcases w1 with ⟨a1,a2,a3⟩|⟨_,a2,_⟩
 rotate_left
 ·rw [hc.1] at a2;cases a2
 rw [hr.und,List.nil_append,Nat.add_zero] at a3
 obtain ⟨f1,f2,f3,f4,f5⟩:=flushD_calm hc
 refine ⟨a1,a2,w5,by rw [a3,wsJ_length],w3,f3,⟨f1,f4,Dsk.flushD_ok w4⟩,by rw [f2,w3],by rw [flushD_life,w5],fun j hj hjo=>?_⟩
 unfold Dsk.sec
 rw [f5,a3,w2]
 exact layAll_off D.n j _ _ hr.ok.len fun x hx=>by
  obtain ⟨b1,b2,b3⟩:=wsJ_in at_ v ps used hp x hx
  exact ⟨by omega,by omega,by omega⟩
end Go.Proofs.YtgipenahkmbelaaGreatDoor
namespace Go.Proofs.YtgipenahkmbelaaGreatDoor
open Go Go.RowKit
def posB (r:Rows) (i:Nat):Nat:=(vu r.length).length+((r.take i).flatMap rowB).length
theorem posB_zero (r:Rows):posB r 0=(vu r.length).length:=rfl
theorem posB_end (r:Rows):posB r r.length=(zBd r).length:=by unfold posB zBd;rw [List.take_length,List.length_append]
theorem posB_next {r:Rows} {i:Nat} {p:List UInt8 × List UInt8} (h:r[i]? = some p):posB r (i+1)=posB r i+(tx p.1).length+(tx p.2).length:=by
 unfold posB
 rw [List.take_add_one,h,List.flatMap_append,List.length_append]
 simp only [Option.toList_some,List.flatMap_cons,List.flatMap_nil,List.append_nil]
 unfold rowB
 rw [List.length_append]
 omega
theorem snap_cut {r:Rows} {i:Nat} {p:List UInt8 × List UInt8} (h:r[i]? = some p):∃ t,(zBd r).drop (posB r i)=tx p.1++(tx p.2++t):=by
 obtain ⟨hi,he⟩:=List.getElem?_eq_some_iff.1 h
 have e:r=r.take i++p::r.drop (i+1):=by rw [← he,← List.drop_eq_getElem_cons hi,List.take_append_drop]
 have e2:r.flatMap rowB=(r.take i).flatMap rowB++(tx p.1++tx p.2++(r.drop (i+1)).flatMap rowB):=by
  conv=>lhs;rw [e]
  rw [List.flatMap_append,List.flatMap_cons]
  rfl
 refine ⟨(r.drop (i+1)).flatMap rowB,?_⟩
 unfold zBd
 rw [e2,← List.append_assoc,List.drop_left' (by unfold posB;rw [List.length_append]),List.append_assoc]
theorem snap_row {r:Rows} {i:Nat} {p:List UInt8 × List UInt8} (h:r[i]? = some p) (hl:(zBd r).length≤4611686018427387904) :
 ∃ t u,rtx (zBd r).length ((zBd r).drop (posB r i))=.ok p.1 t∧rtx (zBd r).length ((zBd r).drop (posB r i+(tx p.1).length))=.ok p.2 u∧posB r i+(tx p.1).length+(tx p.2).length≤(zBd r).length:=by
 obtain ⟨t,ht⟩:=snap_cut h
 have hd:=congrArg List.length ht
 rw [List.length_drop,List.length_append,List.length_append] at hd
 have h1:=tx_len p.1
 have h2:=tx_len p.2
 refine ⟨tx p.2++t,t,?_,?_,by omega⟩
 ·rw [ht]
  exact rtx_tx _ _ _ (by omega) (by omega)
 ·rw [← List.drop_drop,ht,List.drop_left]
  exact rtx_tx _ _ _ (by omega) (by omega)
theorem rows_snap (r:Rows):r.length≤(r.flatMap rowB).length:=by
 induction r with
 |nil=>exact Nat.le_refl _
 |cons p r ih=>
  have h1:=tx_len p.1
  have e:(rowB p).length=(tx p.1).length+(tx p.2).length:=by unfold rowB;rw [List.length_append]
  rw [List.flatMap_cons,List.length_append,List.length_cons,e]
  omega
theorem snap_head (r:Rows) (h:(zBd r).length≤4611686018427387904):ru ((zBd r).drop 0)=.ok r.length (r.flatMap rowB)∧r.length≤(zBd r).length:=by
 have h1:=rows_snap r
 have h2:(zBd r).length=(vu r.length).length+(r.flatMap rowB).length:=by unfold zBd;rw [List.length_append]
 exact ⟨by rw [List.drop_zero];exact ru_vu _ (by omega) _,by omega⟩
theorem ris_take {r:Rows} (h:RisR r) (i:Nat):RisR (r.take i):=List.Pairwise.sublist (List.take_sublist _ _) h
theorem put_next {r:Rows} (hr:RisR r) {i:Nat} {p:List UInt8 × List UInt8} (h:r[i]? = some p):putR (r.take i) p.1 p.2=r.take (i+1):=by
 have hT:=ris_take hr i
 have hT2:=ris_take hr (i+1)
 have e:r.take (i+1)=r.take i++[p]:=by rw [List.take_add_one,h];rfl
 refine rows_ext (putR_ris hT _ _) hT2 fun k=>?_
 rw [lk_putR hT,e,lk_append]
 rw [e] at hT2
 by_cases hk:k=p.1
 ·have h0:lk (r.take i) k=none:=lk_above fun q hq=>by
   rw [hk]
   exact (List.pairwise_append.1 hT2).2.2 q hq p (by simp)
  rw [if_pos hk,h0]
  show some p.2=(if p.1=k then some p.2 else none)
  rw [if_pos hk.symm]
 ·rw [if_neg hk]
  have:lk [p] k=none:=by
   show (if p.1=k then some p.2 else none)=none
   rw [if_neg (fun q=>hk q.symm)]
  rw [this,Option.or_none]
theorem ofR_ris {r:Rows} (hr:RisR r):ofR r=r:=by
 have key:∀ i,i≤r.length→ofR (r.take i)=r.take i:=by
  intro i
  induction i with
  |zero=>intro _;rfl
  |succ i ih=>
   intro hi
   obtain ⟨p,hp⟩:∃ p,r[i]? = some p:=⟨_,List.getElem?_eq_getElem (show i<r.length by omega)⟩
   rw [ofR_next hp,ih (by omega),put_next hr hp]
 have:=key r.length (Nat.le_refl _)
 rwa [List.take_length] at this
theorem ris_next {r:Rows} (hr:RisR r) {i:Nat} {p q:List UInt8 × List UInt8} (h1:r[i]? = some p) (h2:r[i+1]? = some q):Op.bytesLess p.1 q.1=true:=by
 obtain ⟨a1,b1⟩:=List.getElem?_eq_some_iff.1 h1
 obtain ⟨a2,b2⟩:=List.getElem?_eq_some_iff.1 h2
 have:=List.pairwise_iff_getElem.1 hr i (i+1) a1 a2 (by omega)
 rw [b1,b2] at this
 exact this
theorem Good.logE {n v:Nat} {r:Rows} {D:Dsk} (h:Good n r v D) (h1:64≤n) (h2:n≤65536) (hv:1≤v∧v≤1099511627776) (f:Nat):rpGo D (logAt n:Nat) (logN n:Nat) v (f+1) 0 []=[]:=by
 obtain ⟨f1,f2,f3,f4⟩:=lay_fit h1 v
 have hn:=h.nn
 have h0:0<logN n:=by unfold logN layA;omega
 have hp:payO D (logAt n:Nat) (logN n:Nat) v 0=none:=by
  obtain ⟨r1,r2⟩:=read_clean h.rest.calm h.rest.und (logAt n+0) (by omega)
  have e:((logAt n:Nat):Int)+((0:Nat):Int)=((logAt n+0:Nat):Int):=by omega
  unfold payO
  rw [if_neg (by omega),e,if_neg (by rw [r1];simp),r2]
  exact openS_tail (stamp_lt hv.2 (by omega)) (h.log 0 h0)
 show (match recO D (logAt n:Nat) (logN n:Nat) v 0 with|none=>[]|some (s,u)=>rpGo D (logAt n:Nat) (logN n:Nat) v f (0+u.toNat) ([]++[s]))=[]
 rw [recO_none hp]
end Go.Proofs.YtgipenahkmbelaaGreatDoor
namespace Go.Proofs.YtgipenahkmbelaaGreatDoor
open Go Go.RowKit
structure RdyS (n v:Nat) (D:Dsk):Prop where
 rest:Rest D
 nn:D.n=n
 slot:∃ l,Holds D 0 v l
theorem Ready.s {n v:Nat} {D:Dsk} (h:Ready n v D):RdyS n v D:=⟨h.rest,h.nn,h.slot⟩
theorem Good.s {n v:Nat} {r:Rows} {D:Dsk} (h:Good n r v D):RdyS n v D:=h.ready.s
theorem RdyS.fold {n v:Nat} {D:Dsk} (h:RdyS n v D) (r:Rows) (h1:64≤n) (h2:n≤65536) (hv:v+1≤1099511627776) (hr:(zBd r).length≤234*layA n) :
 (areaW D (areaAt n (v+1)) (layA n) ((v+1:Nat):Int) (zBd r)).1=0∧slotWE (fldA D n (v+1) r) 0 ((v+1:Nat):Int) (hdrB n (zBd r).length)=0∧RdyS n (v+1) (fldD D n (v+1) r)∧(fldD D n (v+1) r).life=D.life∧(fldA D n (v+1) r).und=[]∧(fldA D n (v+1) r).n=n∧(fldD D n (v+1) r).off=false:=by
 obtain ⟨f1,f2,f3,f4⟩:=lay_fit h1 (v+1)
 obtain ⟨l,hl⟩:=h.slot
 have hn:=h.nn
 obtain ⟨a1,a2,a3,a4,a5,a6⟩:=rest_area h.rest (areaAt n (v+1)) (layA n) (v+1) (zBd r) (by omega) (by omega) hr (by unfold layA;omega)
 have hA:(areaW D (areaAt n (v+1)) (layA n) ((v+1:Nat):Int) (zBd r)).2=fldA D n (v+1) r:=rfl
 rw [hA] at a2 a3 a4 a5 a6
 have hl2:Holds (fldA D n (v+1) r) 0 v l:=hl.keep fun k hk=>by
  refine a6 _ (by omega) (.inl (by omega))
 have hh:=hdrB_len n (zBd r).length
 obtain ⟨b1,b2,b3,b4,b5⟩:=rest_write a2 0 (v+1) (hdrB n (zBd r).length) (by omega) (by omega) hv (by omega)
 have hS:=Holds.next a2 (by omega) hl2 hv (show (hdrB n (zBd r).length).length≤234 by omega)
 exact ⟨a1,b1,⟨b2,b3.trans (a3.trans hn),_,hS⟩,(slotWD_life _ _ _ _).trans a4,a2.und,a3.trans hn,b2.calm.1⟩
def logD (D:Dsk) (n v used:Nat) (rc:List UInt8):Dsk:=(apGo (logAt n:Nat) v used (pcsJ rc) 0 D).2.flushD
theorem RdyS.log {n v used:Nat} {D:Dsk} (h:RdyS n v D) (h1:64≤n) (rc:List UInt8) (hf:used+(pcsJ rc).length≤logN n):RdyS n v (logD D n v used rc)∧(logD D n v used rc).life=D.life:=by
 obtain ⟨f1,f2,f3,f4⟩:=lay_fit h1 v
 have hn:=h.nn
 obtain ⟨l,hl⟩:=h.slot
 obtain ⟨p1,p2,p3,p4,p5,p6,p7,p8,p9,p10⟩:=ap_rest h.rest (at_:=logAt n) (v:=v) (used:=used) (pcsJ_le rc) (by omega)
 exact ⟨⟨p7,p8.trans hn,l,hl.keep fun k hk=>p10 _ (by omega) (.inl (by omega))⟩,p9⟩
theorem cost_large {len n:Nat} (hn:1≤n) (hn2:n≤65536) (h:(len:Int)≤largestI (n:Nat)):costI len≤(n:Nat):=by
 have e:largestI (n:Nat)=229+233*((n:Int)-1):=by
  unfold largestI
  rw [if_neg (by omega),i64_wrap (233*((n:Int)-1)) (by omega),i64_wrap _ (by omega)]
 rw [e] at h
 unfold costI
 split
 ·omega
 ·split <;> omega
theorem largest_val {n:Nat} (hn:1≤n) (hn2:n≤65536):largestI (n:Nat)=229+233*((n:Int)-1):=by
 unfold largestI
 rw [if_neg (by omega),i64_wrap (233*((n:Int)-1)) (by omega),i64_wrap _ (by omega)]
def commE (n:Nat) (r:Rows) (ops:List BOp):Nat:=if zBy ops=[] then 0 else if largestI (logN n:Nat)<((encAll (zBy ops)).length:Nat) then 18 else if 234*layA n<(zBd (zAf r (zBy ops))).length then 17 else 0
def commR (n:Nat) (r:Rows) (ops:List BOp):Rows:=if commE n r ops=0 then zAf r (zBy ops) else r
theorem normD_enc (ops:List BOp):encode (zBy ops)=(encAll (zBy ops),0):=by
 unfold encode
 have h1:risesB (zBy ops)=true:=risesB_iff.2 (normD_rising ops)
 have h2:(zBy ops).all formB=true:=List.all_eq_true.2 fun x hx=>formB_iff.2 (normD_nrm hx)
 rw [h1,h2,if_neg (by simp),if_neg (by simp)]
end Go.Proofs.YtgipenahkmbelaaGreatDoor
namespace Go.Proofs.YtgipenahkmbelaaGreatDoor
open Go Go.RowKit
def opOf (r0 r:Rows) (k:List UInt8):Option BOp:=match lk r k with
 |some v=>if lk r0 k=some v then none else some ⟨false,k,v⟩
 |none=>bif (lk r0 k).isSome then some ⟨true,k,[]⟩ else none
theorem opOf_need {r0 r:Rows} {k:List UInt8} {x:BOp} (h:opOf r0 r k=some x):x.key=k∧x.nrm=x∧Need r0 r x:=by
 unfold opOf at h
 split at h
 ·rename_i v hv
  split at h
  ·cases h
  ·rename_i hne
   cases h
   exact ⟨rfl,rfl,.inr ⟨rfl,hv,hne⟩⟩
 ·rename_i hv
  cases hs:(lk r0 k).isSome with
  |false=>rw [hs] at h;cases h
  |true=>
   rw [hs] at h
   cases h
   exact ⟨rfl,rfl,.inl ⟨rfl,rfl,hv,hs⟩⟩
theorem need_opOf {r0 r:Rows} {x:BOp} (h:Need r0 r x):opOf r0 r x.key=some x∧lk r x.key≠lk r0 x.key:=by
 obtain ⟨d,k,v⟩:=x
 unfold opOf
 rcases h with ⟨h1,h2,h3,h4⟩|⟨h1,h2,h3⟩
 ·dsimp only at h1 h2 h3 h4 ⊢
  subst h1;subst h2
  rw [h3,h4]
  exact ⟨rfl,fun e=>by rw [← e] at h4;cases h4⟩
 ·dsimp only at h1 h2 h3 ⊢
  subst h1
  rw [h2]
  exact ⟨if_neg h3,fun e=>h3 e.symm⟩
theorem lastOf_from' {l:List BOp} {k:List UInt8} {x:BOp} (h:zBx l k=some x):∃ o ∈ l,o.key=k∧x=o.nrm:=by
 induction l with
 |nil=>cases h
 |cons o l ih=>
  rw [zBx] at h
  cases hl:zBx l k with
  |some y=>
   rw [hl] at h
   obtain ⟨o',h1,h2⟩:=ih (by rw [hl];exact h)
   exact ⟨o',List.mem_cons_of_mem _ h1,h2⟩
  |none=>
   rw [hl] at h
   by_cases e:o.key=k
   ·rw [if_pos e] at h
    cases h
    exact ⟨o,List.mem_cons_self ..,e,rfl⟩
   ·rw [if_neg e] at h;cases h
theorem lastOf_has {l:List BOp} {o:BOp} (h:o ∈ l):∃ x,zBx l o.key=some x:=by
 induction l with
 |nil=>cases h
 |cons p l ih=>
  rw [zBx]
  cases hl:zBx l o.key with
  |some y=>exact ⟨y,rfl⟩
  |none=>
   rcases List.mem_cons.1 h with rfl|h
   ·exact ⟨o.nrm,by rw [if_pos rfl];rfl⟩
   ·obtain ⟨x,hx⟩:=ih h
    rw [hl] at hx;cases hx
theorem ops_between {r0 r:Rows} (h0:RisR r0) (h1:RisR r) {K:List (List UInt8)} (hK:∀ k,lk r k≠lk r0 k→k ∈ K) {l:List BOp} (hl:l.Perm (K.filterMap (opOf r0 r))):zBy l=zAs r0 r:=by
 have hm:∀ x,x ∈ l↔Need r0 r x:=fun x=>by
  rw [hl.mem_iff,List.mem_filterMap]
  constructor
  ·rintro ⟨k,-,hk⟩;exact (opOf_need hk).2.2
  ·intro hx
   obtain ⟨a1,a2⟩:=need_opOf hx
   exact ⟨x.key,hK _ a2,a1⟩
 refine (normD_of (between_rising h0 h1) fun x=>?_).symm
 rw [between_mem h0 h1]
 constructor
 ·intro hx
  obtain ⟨y,hy⟩:=lastOf_has ((hm x).2 hx)
  obtain ⟨o,a1,a2,rfl⟩:=lastOf_from' hy
  have h3:=(need_opOf hx).1
  have h4:=(need_opOf ((hm o).1 a1)).1
  rw [a2,h3] at h4
  cases h4
  rw [hy,(opOf_need h3).2.1]
 ·intro hx
  obtain ⟨o,a1,a2,a3⟩:=lastOf_from' hx
  have h4:=(need_opOf ((hm o).1 a1)).1
  rw [a3,(opOf_need h4).2.1]
  exact (hm o).1 a1
end Go.Proofs.YtgipenahkmbelaaGreatDoor
namespace Go.Proofs.YtgipenahkmbelaaGreatDoor
open Go Go.RowKit
theorem writeD_fl {D:Dsk} (h:Calm D) (i:Int) (s:List UInt8):(D.writeD i s).flushes=D.flushes:=by
 have h1:Calm ({ D with und:=D.und++[(i.toNat,s)] }:Dsk):=h
 unfold Dsk.writeD
 simp only [gone_calm h1]
 repeat' split
 all_goals rfl
theorem flushD_fl {D:Dsk} (h:Calm D):D.flushD.flushes=w64 (D.flushes+1):=by
 unfold Dsk.flushD
 rw [if_neg (by rw [h.1];simp),if_neg (by rw [dead_calm h];simp)]
theorem ap_fl (at_:Int) (ver used:Nat):∀ (ps:List (List UInt8)) (i:Nat) (D:Dsk),Calm D→(apGo at_ ver used ps i D).2.flushes=D.flushes:=by
 intro ps
 induction ps with
 |nil=>intro i D _;rfl
 |cons p ps ih=>
  intro i D h
  unfold apGo
  split
  ·exact writeD_fl h _ _
  ·rw [ih _ _ (writeD_calm h _ _).1,writeD_fl h]
theorem aw_fl (at_ stamp:Int):∀ (f:Nat) (D:Dsk) (i:Int) (v:List UInt8),Calm D→(awGo at_ stamp f D i v).1=0→(awGo at_ stamp f D i v).2.flushes=w64 (D.flushes+1):=by
 intro f
 induction f with
 |zero=>intro D i v h _;exact flushD_fl h
 |succ f ih=>
  intro D i v h h0
  unfold awGo at h0 ⊢
  by_cases hv:v=[]
  ·rw [if_pos hv];exact flushD_fl h
  ·rw [if_neg hv] at h0 ⊢
   by_cases hw:D.writeE (at_+i) (zBs stamp (v.take 234))≠0
   ·rw [if_pos hw] at h0
    exact absurd h0 hw
   ·rw [if_neg hw] at h0 ⊢
    rw [ih _ _ _ (writeD_calm h _ _).1 h0,writeD_fl h]
theorem area_fl {D:Dsk} (h:Calm D) (a n s:Int) (v:List UInt8) (h0:(areaW D a n s v).1=0):(areaW D a n s v).2.flushes=w64 (D.flushes+1):=by
 unfold areaW at h0 ⊢
 by_cases h1:D.mayB a n=false
 ·rw [if_pos h1] at h0;cases h0
 rw [if_neg h1] at h0 ⊢
 by_cases h2:s=0
 ·rw [if_pos h2] at h0;cases h0
 rw [if_neg h2] at h0 ⊢
 by_cases h3:roomI n<(v.length:Int)
 ·rw [if_pos h3] at h0;cases h0
 rw [if_neg h3] at h0 ⊢
 have h4:¬ (D.off=true):=by rw [h.1];simp
 rw [if_neg h4] at h0 ⊢
 exact aw_fl _ _ _ _ _ _ h h0
theorem slot_fl {D:Dsk} (h:Calm D) (a v:Int) (s:List UInt8) (h0:slotWE D a v s=0):(slotWD D a v s).flushes=w64 (D.flushes+1):=by
 unfold slotWE at h0
 unfold slotWD
 by_cases h1:slotMay D a v=false
 ·rw [if_pos h1] at h0;cases h0
 rw [if_neg h1] at h0 ⊢
 by_cases h2:234<s.length
 ·rw [if_pos h2] at h0;cases h0
 rw [if_neg h2] at h0 ⊢
 by_cases h3:D.writeE (a+v % 2) (zBs v s)≠0
 ·rw [if_pos h3] at h0
  exact absurd h0 h3
 rw [if_neg h3]
 have hc:Calm (slotW1 D a v s):=(writeD_calm h _ _).1
 rw [flushD_fl hc]
 have e:(slotW1 D a v s).flushes=D.flushes:=writeD_fl h _ _
 rw [e]
theorem RdyS.log_fl {n v used:Nat} {D:Dsk} (h:RdyS n v D) (rc:List UInt8):(logD D n v used rc).flushes=w64 (D.flushes+1):=by
 unfold logD
 rw [flushD_fl (ap_calmS _ _ _ _ _ _ h.rest.calm),ap_fl _ _ _ _ _ _ h.rest.calm]
theorem RdyS.fold_fl {n v:Nat} {D:Dsk} (h:RdyS n v D) (r:Rows) (h1:64≤n) (h2:n≤65536) (hv:v+1≤1099511627776) (hr:(zBd r).length≤234*layA n) :
 (fldD D n (v+1) r).flushes=w64 (w64 (D.flushes+1)+1):=by
 obtain ⟨f1,f2,f3,f4⟩:=lay_fit h1 (v+1)
 have hn:=h.nn
 have hA:layA n≤65536:=by unfold layA;omega
 obtain ⟨a1,a2,a3,-,-,-⟩:=rest_area h.rest (areaAt n (v+1)) (layA n) (v+1) (zBd r) (by omega) (by omega) hr (by omega)
 have e1:(fldA D n (v+1) r).flushes=w64 (D.flushes+1):=area_fl h.rest.calm _ _ _ _ a1
 have hh:(hdrB n (zBd r).length).length≤234:=Nat.le_trans (hdrB_len _ _) (by omega)
 obtain ⟨b1,-,-,-,-⟩:=rest_write (a:=0) (v:=v+1) a2 (s:=hdrB n (zBd r).length) (by omega) (by omega) hv hh
 have e2:=slot_fl (D:=(areaW D (areaAt n (v+1)) (layA n) ((v+1:Nat):Int) (zBd r)).2) a2.calm _ _ _ b1
 show (slotWD (fldA D n (v+1) r) ((0:Nat):Int) ((v+1:Nat):Int) (hdrB n (zBd r).length)).flushes=_
 rw [← e1]
 exact e2
end Go.Proofs.YtgipenahkmbelaaGreatDoor
