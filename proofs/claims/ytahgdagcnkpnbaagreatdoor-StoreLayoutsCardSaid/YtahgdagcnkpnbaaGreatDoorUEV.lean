/-
  TxB, TxC, TxP3, TxL0, TxUB.
-/
import Derived.Test.YtahgdagcnkpnbaaGreatDoorUEL
import Derived.Test.YtahgdagcnkpnbaaGreatDoorUEQ
import Derived.Test.YtahgdagcnkpnbaaGreatDoorUEO
set_option maxHeartbeats 64000000
namespace Go.Proofs.YtahgdagcnkpnbaaGreatDoor
open Go Go.RowKit
def undoR (r:Rows) (k old:List UInt8) (there:Bool):Rows:=bif there then putR r k old else mdel r k
theorem undo_put {r:Rows} (h:RisR r) (k v:List UInt8):undoR (putR r k v) k ((lk r k).getD []) (lk r k).isSome=r:=by
 have hp:=putR_ris h k v
 cases hl:lk r k with
 |none=>
  show mdel (putR r k v) k=r
  refine rows_ext (mdel_ris hp k) h fun y=>?_
  rw [lk_del,lk_putR h]
  by_cases e:y=k
  ·rw [if_pos e,e,hl]
  ·rw [if_neg e,if_neg e]
 |some u=>
  show putR (putR r k v) k u=r
  refine rows_ext (putR_ris hp k u) h fun y=>?_
  rw [lk_putR hp,lk_putR h]
  by_cases e:y=k
  ·rw [if_pos e,e,hl]
  ·rw [if_neg e,if_neg e]
theorem undo_del {r:Rows} (h:RisR r) (k:List UInt8):undoR (mdel r k) k ((lk r k).getD []) (lk r k).isSome=r:=by
 have hp:=mdel_ris h k
 cases hl:lk r k with
 |none=>
  show mdel (mdel r k) k=r
  refine rows_ext (mdel_ris hp k) h fun y=>?_
  rw [lk_del,lk_del]
  by_cases e:y=k
  ·rw [if_pos e,e,hl]
  ·rw [if_neg e,if_neg e]
 |some u=>
  show putR (mdel r k) k u=r
  refine rows_ext (putR_ris hp k u) h fun y=>?_
  rw [lk_putR hp,lk_del]
  by_cases e:y=k
  ·rw [if_pos e,e,hl]
  ·rw [if_neg e,if_neg e]
structure TxKB (r0:Rows) (Rs:List Rows) (r:Rows) (m:Nat) (K:List (List UInt8 × Bool)) (U:List UE):Prop where
 ul:U.length=Rs.length
 um:U.length≤m
 kl:K.length≤m
 nd:(K.map (·.1)).Nodup
 ris:∀ x ∈ Rs++[r],RisR x
 all:∀ x ∈ Rs++[r],∀ k,lk x k≠lk r0 k→k ∈ K.map (·.1)
 undo:∀ i u x y,U[i]? = some u→(Rs++[r])[i]? = some x→(Rs++[r])[i+1]? = some y→undoR y u.key u.old u.there=x
theorem TxKB.rr {r0:Rows} {Rs:List Rows} {r:Rows} {m:Nat} {K:List (List UInt8 × Bool)} {U:List UE} (h:TxKB r0 Rs r m K U):RisR r:=h.ris r (by simp)
theorem mem_mput {K:List (List UInt8 × Bool)} {k key:List UInt8} (h:k=key∨k ∈ K.map (·.1)):k ∈ (mput K key true).map (·.1):=by
 rw [mem_keys_lk,lk_put]
 by_cases e:k=key
 ·rw [if_pos e];rfl
 ·rw [if_neg e]
  exact mem_keys_lk.1 (h.resolve_left e)
theorem TxKB.step {r0:Rows} {Rs:List Rows} {r r':Rows} {m:Nat} {K:List (List UInt8 × Bool)} {U:List UE} (h:TxKB r0 Rs r m K U) (e:UE) (hr':RisR r') (hk:∀ k,k≠e.key→lk r' k=lk r k) (hu:undoR r' e.key e.old e.there=r) :
 TxKB r0 (Rs++[r]) r' (m+1) (mput K e.key true) (U++[e]):=by
 have hul:=h.ul
 refine ⟨by simp [hul],by rw [List.length_append];exact Nat.succ_le_succ h.um,Nat.le_trans (mput_len _ _ _) (Nat.succ_le_succ h.kl),mput_nodup h.nd _ _,fun x hx=>?_,fun x hx k hk'=>?_,fun i u x y h1 h2 h3=>?_⟩
 ·rcases List.mem_append.1 hx with hx|hx
  ·exact h.ris x hx
  ·rw [List.mem_singleton.1 hx];exact hr'
 ·rcases List.mem_append.1 hx with hx|hx
  ·exact mem_mput (.inr (h.all x hx k hk'))
  ·rw [List.mem_singleton.1 hx] at hk'
   by_cases e1:k=e.key
   ·exact mem_mput (.inl e1)
   ·rw [hk k e1] at hk'
    exact mem_mput (.inr (h.all r (by simp) k hk'))
 ·by_cases hi:i<U.length
  ·rw [List.getElem?_append_left hi] at h1
   have l1:(Rs++[r]).length=U.length+1:=by simp [hul]
   rw [List.getElem?_append_left (by omega)] at h2 h3
   exact h.undo i u x y h1 h2 h3
  ·have hi2:i=U.length:=by
    have:=(List.getElem?_eq_some_iff.1 h1).1
    rw [List.length_append,List.length_singleton] at this
    omega
   subst hi2
   have l1:(Rs++[r]).length=U.length+1:=by simp [hul]
   rw [List.getElem?_append_right (Nat.le_refl _),Nat.sub_self] at h1
   rw [List.getElem?_append_left (by omega),hul,List.getElem?_append_right (Nat.le_refl _),Nat.sub_self] at h2
   rw [List.getElem?_append_right (by omega),show U.length+1-(Rs++[r]).length=0 by omega] at h3
   simp only [List.getElem?_cons_zero,Option.some.injEq] at h1 h2 h3
   rw [← h1,← h2,← h3]
   exact hu
theorem TxKB.back {r0:Rows} {Rs:List Rows} {r x:Rows} {m:Nat} {K:List (List UInt8 × Bool)} {U:List UE} {u:UE} (h:TxKB r0 (Rs++[x]) r m K (U++[u])):undoR r u.key u.old u.there=x∧TxKB r0 Rs x m K U:=by
 have hul:=h.ul
 simp only [List.length_append,List.length_singleton,Nat.add_right_cancel_iff] at hul
 have hum:=h.um
 rw [List.length_append,List.length_singleton] at hum
 refine ⟨h.undo U.length u x r (by simp) (by rw [hul];simp) (by rw [hul];simp),hul,by omega,h.kl,h.nd,fun y hy=>h.ris y (List.mem_append_left _ hy),fun y hy=>h.all y (List.mem_append_left _ hy),fun i v y z h1 h2 h3=>?_⟩
 have l1:=(List.getElem?_eq_some_iff.1 h1).1
 refine h.undo i v y z (by rw [List.getElem?_append_left l1];exact h1) ?_ ?_
 ·rw [List.getElem?_append_left (by simp;omega)];exact h2
 ·rw [List.getElem?_append_left (by simp;omega)];exact h3
theorem TxKB.k {r0:Rows} {Rs:List Rows} {r:Rows} {m:Nat} {K:List (List UInt8 × Bool)} {U:List UE} (h:TxKB r0 Rs r m K U):TxK r0 r m K U:=⟨h.um,h.kl,h.nd,h.all r (by simp)⟩
def TxB (t s:Nat) (r0:Rows) (Rs:List Rows) (r:Rows) (m:Nat):SP:=packP 88 t (fun x:{x:List (List UInt8 × Bool) × List UE//TxKB r0 Rs r m x.1 x.2}=>[TxP t s r x.1.1 x.1.2 false])
theorem TxB.star {t s m:Nat} {r0 r:Rows} {Rs:List Rows} {K:List (List UInt8 × Bool)} {U:List UE} (h:TxKB r0 Rs r m K U) {R:List SP}:∀ g,zAx (TxP t s r K U false::R) g→zAx (TxB t s r0 Rs r m::R) g:=fun g q=>
 pack_star (F:=fun x:{x:List (List UInt8 × Bool) × List UE//TxKB r0 Rs r m x.1 x.2}=>[TxP t s r x.1.1 x.1.2 false]) ⟨(K,U),h⟩ g q
section
variable {W:World} {F:Nat→Addr} {r0 r:Rows} {Rs:List Rows} {t s m:Nat}
theorem txgetB (key:List UInt8):Ct Tryz.prog W 23 [.pointer (some ⟨t,0,none⟩),strV key] [TxB t s r0 Rs r m] (fun _:Unit=>.tuple #[strV ((lk r key).getD []),.bool (lk r key).isSome]) (fun _=>[TxB t s r0 Rs r m]):=by
 refine Ct_unpack (Hs:=[]) fun ⟨(K,U),hU⟩=>?_
 exact (txget_ct (W:=W) key).to id (fun _=>rfl) (fun _ R g q=>TxB.star hU g q)
theorem txputB (key val:List UInt8) (hl:r.length≤288230376151711744) (hm:(m+1)*8≤140737488355328):Ct Tryz.prog W 20 [.pointer (some ⟨t,0,none⟩),strV key,strV val] [TxB t s r0 Rs r m] (fun _:Unit=>.nilIface) (fun _=>[TxB t s r0 (Rs++[r]) (putR r key val) (m+1)]):=by
 refine Ct_unpack (Hs:=[]) fun ⟨(K,U),hU⟩=>?_
 dsimp only at hU ⊢
 have hu:=hU.um
 have hr:=hU.rr
 exact (txput_ct (W:=W) key val hl (by omega)).to (fun _=>()) (fun _=>rfl) (fun _ R g q=>TxB.star (hU.step ⟨key,_,_,_,_,_,_⟩ (putR_ris hr _ _) (fun k hk=>by rw [lk_putR hr,if_neg hk]) (undo_put hr key val)) g q)
theorem txdelB (key:List UInt8) (hl:r.length≤288230376151711744) (hm:(m+1)*8≤140737488355328):Ct Tryz.prog W 19 [.pointer (some ⟨t,0,none⟩),strV key] [TxB t s r0 Rs r m] (fun _:Unit=>.nilIface) (fun _=>[TxB t s r0 (Rs++[r]) (mdel r key) (m+1)]):=by
 refine Ct_unpack (Hs:=[]) fun ⟨(K,U),hU⟩=>?_
 dsimp only at hU ⊢
 have hu:=hU.um
 have hr:=hU.rr
 exact (txdel_ct (W:=W) key hl (by omega)).to (fun _=>()) (fun _=>rfl) (fun _ R g q=>TxB.star (hU.step ⟨key,_,_,_,_,_,_⟩ (mdel_ris hr _) (fun k hk=>by rw [lk_del,if_neg hk]) (undo_del hr key)) g q)
end
end Go.Proofs.YtahgdagcnkpnbaaGreatDoor
namespace Go.Proofs.YtahgdagcnkpnbaaGreatDoor
open Go Go.RowKit
section
variable {P:Program} {W:World} {f:FuncId} {args:List Value} {X:Type} {r:X→Value}
theorem Ct.frm {Hp:List SP} {H':X→List SP} (h:Ct P W f args Hp r H') (F:List SP):Ct P W f args (Hp++F) r (fun x=>H' x++F):=
 ⟨fun R w s=>(h.go (F++R) w (by rw [← List.append_assoc];exact s)).mono fun _ _ ⟨x,he,hs⟩=>⟨x,he,by rw [List.append_assoc];exact hs⟩⟩
theorem Ct.swap2 {A B:SP} {H':X→List SP} (h:Ct P W f args [B,A] r H'):Ct P W f args [A,B] r H':=h.conv (fun _ _ q=>starL_swap _ q) (fun _ _ _ q=>q)
end
section
variable {W:World} {F:Nat→Addr} {r0 r:Rows} {Rs:List Rows} {t s m n k:Nat} {K:List (List UInt8 × Bool)} {U:List UE}
theorem txopsP (hn:(K.map (·.1)).Nodup) (hK:∀ k,lk r k≠lk r0 k→k ∈ K.map (·.1)) (hl:K.length*40≤140737488355328) :
 Ct Tryz.prog W 34 [.pointer (some ⟨t,0,none⟩)] [TxP t s r K U false,StQ s n k r0] (fun x:Option Addr × Nat=>.slice x.1 (zAr r0 r).length x.2)
  (fun x=>[TxP t s r K U false,StQ s n k r0,lsP opC 43 3 (.slice x.1 (zAr r0 r).length x.2) (zAr r0 r)]):=by
 refine Ct.swap2 ?_
 refine Ct_unpack fun ⟨⟨d,q,g,v,used,D,N,a,b⟩,hx⟩=>?_
 have h:=(txops_ct (W:=W) (t:=t) (s:=s) (d:=d) (q:=q) (n:=n) (a:=a) (b:=b) (U:=U) (r:=r) (v:Nat) (some ⟨g,0,none⟩) D.life false hx.tab hn hK hl).frm [DiskP d D,jouU g d n v used D.life]
 refine h.conv (fun R=>?_) (fun x R=>?_)
 ·have e:∀ g',zAx ([stP s d q n (v:Nat) (some ⟨g,0,none⟩) D.life false,DiskP d D,tbP q a b,arP N,jouU g d n v used D.life,TxP t s r K U false]++R) g'→zAx ([TxP t s r K U false,stP s d q n (v:Nat) (some ⟨g,0,none⟩) D.life false,tbP q a b,arP N,DiskP d D,jouU g d n v used D.life]++R) g':=(xN)
  exact e
 ·have e:∀ g',zAx ([TxP t s r K U false,stP s d q n (v:Nat) (some ⟨g,0,none⟩) D.life false,tbP q a b,arP N,lsP opC 43 3 (.slice x.1 (zAr r0 r).length x.2) (zAr r0 r),DiskP d D,jouU g d n v used D.life]++R) g'→zAx ([stP s d q n (v:Nat) (some ⟨g,0,none⟩) D.life false,DiskP d D,tbP q a b,arP N,jouU g d n v used D.life,TxP t s r K U false,lsP opC 43 3 (.slice x.1 (zAr r0 r).length x.2) (zAr r0 r)]++R) g':=(xN)
  intro g' q'
  have q2:=StQ.star (s:=s) (R:=TxP t s r K U false::lsP opC 43 3 (.slice x.1 (zAr r0 r).length x.2) (zAr r0 r)::R) ⟨d,q,g,v,used,D,N,a,b⟩ hx g' (e g' q')
  exact starL_swap _ q2
theorem txopsB (hm:m≤100000000):Ct Tryz.prog W 34 [.pointer (some ⟨t,0,none⟩)] [TxB t s r0 Rs r m,StQ s n k r0] (fun x:Option Addr × Nat=>.slice x.1 (zAr r0 r).length x.2)
 (fun x=>[TxB t s r0 Rs r m,StQ s n k r0,lsP opC 43 3 (.slice x.1 (zAr r0 r).length x.2) (zAr r0 r)]):=by
 refine Ct_unpack fun ⟨(K,U),hU⟩=>?_
 dsimp only at hU ⊢
 have hkl:=hU.kl
 exact (txopsP (W:=W) (t:=t) (s:=s) (n:=n) (k:=k) (U:=U) hU.nd (hU.all r (by simp)) (by omega)).to id (fun _=>rfl) (fun _ R g q=>TxB.star hU g q)
theorem txcommitB (hE:ErrsOn L16 W F) (hE8:ErrsOn L8 W F) (hN:NibAt W) (h1:64≤n) (h2:n≤4096) (hk:k+1≤1099511627776) (hm:m≤100000000) (h0:RisR r0) (hl:r0.length≤100000000) (hbl:(zAr r0 r).length≤100000000) (hb:(zCd (zAr r0 r)).length≤1000000000) (hsb:(zAy r).length≤4611686018427387904) :
 Ct Tryz.prog W 27 [.pointer (some ⟨t,0,none⟩)] [TxB t s r0 Rs r m,StQ s n k r0] (fun _:Unit=>errV F (commE n r0 (zAr r0 r)))
  (fun _=>[TxQ t r true m,StQ s n (k+1) (commR n r0 (zAr r0 r))]):=by
 refine Ct_unpack fun ⟨(K,U),hU⟩=>?_
 dsimp only at hU ⊢
 have hkl:=hU.kl
 have hul:=hU.um
 have hr:=hU.rr
 have hnb:zBq (zAr r0 r)=zAr r0 r:=by rw [← between_prog h0 hr,normD_idem]
 have hap:zAp r0 (zAr r0 r)=r:=between_apply h0 hr
 have co:=txopsP (W:=W) (t:=t) (s:=s) (n:=n) (k:=k) (U:=U) hU.nd (hU.all r (by simp)) (by omega)
 have cc:=fun xa xc=>scommitQ (W:=W) (F:=F) (s:=s) (n:=n) (m:=k) (r:=r0) hE hE8 hN h1 h2 hk _ xa xc (zAr r0 r) (Lv.own (e:=43) (c:=xc) zBu rfl) hbl hl (by rw [hnb];exact hb) (by rw [hnb,hap];exact hsb)
 have h00:zAr r0 r=[]→commE n r0 (zAr r0 r)=0∧commR n r0 (zAr r0 r)=r0:=fun h=>by rw [h];exact ⟨rfl,rfl⟩
 obtain ⟨os,hos⟩:∃ os,os=zAr r0 r:=⟨_,rfl⟩
 rw [← hos] at co cc h00 ⊢
 refine Ct.to (X:=Unit) (H':=fun _=>[TxP t s r K U true,StQ s n (k+1) (commR n r0 os)]) ?_ id (fun _=>rfl) (fun x R g q=>TxQ.star hul g q)
 refine Ct.enter Tryz.func27 rfl Tryz.ntmps27 (by simp) (fun R=>?_)
 apply KJ_rest (fun Kc=>∀ xa xc,KJ W 23 Kc [(0,.pointer (some ⟨t,0,none⟩)),(3,.slice xa os.length xc)]
  ([TxP t s r K U false,StQ s n k r0,lsP opC 43 3 (.slice xa os.length xc) os]++R))
 ·intro rest
  refine KJ.txOpen xS (fun y hT1=>?_)
  repeat' (first|(refine zBt (id:=3) ?_;refine KJ.txShut (s:=s) (K:=K) (U:=U) (ended:=false) y hT1 xP ?_;refine hold ?_)|refine xst ?_|(refine xsa ?_;intro _)|(refine xsb ?_ ?_ <;>intro _<;>try (exfalso;omega))|refine xsc ?_|fail)
  refine Hold.mk ?_
  repeat' (first|(refine zBt (id:=4) ?_;exact KJ.weak (rest _ _) xB (xN))|(refine zAd ?_;refine zAc xE co xP rfl (fun x=>?_);obtain ⟨xa,xc⟩:=x)|refine xst ?_|(refine xsa ?_;intro _)|(refine xsb ?_ ?_ <;>intro _<;>try (exfalso;omega))|refine xsc ?_|fail)
 intro xa xc
 by_cases hz:os=[]
 ·have q0:decide (((os.length:Nat):Int)=0)=true:=decide_eq_true (by rw [hz];rfl)
  obtain ⟨z1,z2⟩:=h00 hz
  rw [z1,z2]
  refine KJ.unpack_at (F:=fun x:{x:StH//StI n k r0 x}=>stL s n x.1) xS (fun ⟨x,hx⟩=>?_)
  have hx2:StI n (k+1) r0 x:=⟨hx.rdy,hx.v1,Nat.le_succ_of_le hx.vm,hx.used,hx.tab,hx.room⟩
  dsimp only
  refine KJ.packs (tag:=87) (key:=s) (F:=fun x:{x:StH//StI n (k+1) r0 x}=>stL s n x.1) ⟨x,hx2⟩ xP ?_
  refine KJ.txOpen xS (fun y hT1=>?_)
  repeat' (first|(refine zBm ?_;refine zAb (zAq rfl rfl q0) ?_)|refine xst ?_|(refine xsa ?_;intro _)|(refine xsb ?_ ?_ <;>intro _<;>try (exfalso;omega))|refine xsc ?_|fail)
  all_goals refine KJ.txShut (s:=s) (K:=K) (U:=U) (ended:=true) y hT1 xP ?_
  all_goals (exact xdn ())
 have q0:decide (((os.length:Nat):Int)=0)=false:=decide_eq_false (by
  have:=List.length_pos_iff.2 hz
  omega)
 refine KJ.txOpen xS (fun y hT1=>?_)
 repeat' (first|(refine zAd ?_;refine zAc xE (cc _ _) xP rfl (fun z=>?_))|(refine zBm ?_;refine zAb (zAq rfl rfl q0) ?_)|refine xst ?_|(refine xsa ?_;intro _)|(refine xsb ?_ ?_ <;>intro _<;>try (exfalso;omega))|refine xsc ?_|fail)
 all_goals refine KJ.txShut (s:=s) (K:=K) (U:=U) (ended:=true) y hT1 xP ?_
 all_goals (exact xdn ())
end
end Go.Proofs.YtahgdagcnkpnbaaGreatDoor
namespace Go.Proofs.YtahgdagcnkpnbaaGreatDoor
open Go Go.RowKit
def sumW {γ:Type} (w:γ→Nat) (l:List γ):Nat:=(l.map w).sum
theorem zCi {γ:Type} (w:γ→Nat) (x:γ) (l:List γ):sumW w (x::l)=w x+sumW w l:=by unfold sumW;rw [List.map_cons,List.sum_cons]
theorem sumW_append {γ:Type} (w:γ→Nat) (l m:List γ):sumW w (l++m)=sumW w l+sumW w m:=by unfold sumW;rw [List.map_append,List.sum_append]
theorem sumW_filter {γ:Type} (w:γ→Nat) (p:γ→Bool) (l:List γ):sumW w (l.filter p)≤sumW w l:=by
 induction l with
 |nil=>exact Nat.le_refl _
 |cons x l ih=>
  rw [List.filter_cons,zCi]
  split
  ·rw [zCi];omega
  ·omega
theorem sumW_ins {γ:Type} (w:γ→Nat) (f:γ→List UInt8) (l:List γ) (x:γ):sumW w (insB f l x)=sumW w l+w x:=by
 have h:sumW w l=sumW w (l.take (atB f l (f x)))+sumW w (l.drop (atB f l (f x))):=by rw [← sumW_append,List.take_append_drop]
 rw [insB_eq,sumW_append,sumW_append,zCi,h]
 have:sumW w ([]:List γ)=0:=rfl
 omega
theorem sumW_sub {γ:Type} (w:γ→Nat) {f:γ→List UInt8} [DecidableEq γ] {l r:List γ} (hl:Rising f l) (hr:Rising f r) (h:∀ x ∈ l,x ∈ r):sumW w l≤sumW w r:=by
 have e:l=r.filter fun x=>decide (x ∈ l):=rising_eq hl (hr.sublist List.filter_sublist) fun x=>by
  rw [List.mem_filter]
  constructor
  ·intro hx;exact ⟨h x hx,decide_eq_true hx⟩
  ·intro hx;exact of_decide_eq_true hx.2
 rw [e]
 exact sumW_filter w _ r
def rowZ (p:List UInt8 × List UInt8):Nat:=(rowB p).length
theorem flatB_len {γ:Type} (g:γ→List UInt8) (l:List γ):(l.flatMap g).length=sumW (fun x=>(g x).length) l:=by
 induction l with
 |nil=>rfl
 |cons x l ih=>rw [List.flatMap_cons,List.length_append,ih,zCi]
theorem snap_sum (r:Rows):(zAy r).length=(vu r.length).length+sumW rowZ r:=by unfold zAy;rw [List.length_append,flatB_len];rfl
theorem putR_ins {r:Rows} (hr:RisR r) (k v:List UInt8):putR r k v=insB Prod.fst (mdel r k) (k,v):=by
 have h1:=mdel_ris hr k
 have h2:hasB Prod.fst (mdel r k) k=false:=hasB_false.2 fun x hx e=>by
  have:=(List.mem_filter.1 hx).2
  simp at this
  exact this e
 have h3:putR (mdel r k) k v=insB Prod.fst (mdel r k) (k,v):=by unfold putR;rw [h2];rfl
 rw [← h3]
 refine rows_ext (putR_ris hr k v) (putR_ris h1 k v) fun y=>?_
 rw [lk_putR hr,lk_putR h1,lk_del]
 by_cases e:y=k
 ·rw [if_pos e,if_pos e]
 ·rw [if_neg e,if_neg e,if_neg e]
theorem sum_put {r:Rows} (hr:RisR r) (k v:List UInt8):sumW rowZ (putR r k v)≤sumW rowZ r+rowZ (k,v):=by
 rw [putR_ins hr,sumW_ins]
 have:sumW rowZ (mdel r k)≤sumW rowZ r:=sumW_filter _ _ _
 omega
theorem sum_del (r:Rows) (k:List UInt8):sumW rowZ (mdel r k)≤sumW rowZ r:=sumW_filter _ _ _
theorem vu_two {n:Nat} (h:n<16384):(vu n).length≤2:=by
 unfold vu vuF
 split
 ·simp
 ·unfold vuF
  split
  ·simp
  ·omega
theorem vu_three {n:Nat} (h:n<2097152):(vu n).length≤3:=by
 unfold vu vuF
 split
 ·simp
 ·unfold vuF
  split
  ·simp
  ·unfold vuF
   split
   ·simp
   ·omega
def opW (o:BOp):Nat:=(encOp o).length
theorem enc_sum (l:List BOp):(zCd l).length=(vu l.length).length+sumW opW l:=by unfold zCd encOps;rw [List.length_append,flatB_len];rfl
theorem opW_nrm (o:BOp):opW o.nrm=opW o:=by
 obtain ⟨d,k,v⟩:=o
 cases d <;> rfl
theorem sum_norm (l:List BOp):sumW opW (zBq l)≤sumW opW l:=by
 induction l with
 |nil=>exact Nat.le_refl _
 |cons o r ih=>
  rw [zCi]
  unfold zBq
  split
  ·omega
  ·rw [sumW_ins,opW_nrm];omega
theorem between_in {a:Rows} (ha:RisR a) (S:List BOp):∀ x ∈ zAr a (zAp a S),x ∈ zBq S:=by
 intro x hx
 have hb:RisR (zAp a S):=applyB_ris ha S
 rw [normD_mem]
 have hn:=(between_mem ha hb x).1 hx
 have hs:∀ k,lk (zAp a S) k=says a S k:=lk_applyB ha S
 rcases hn with ⟨h1,h2,h3,h4⟩|⟨h1,h2,h3⟩
 ·rw [hs] at h3
  unfold says at h3
  cases hl:zBr S x.key with
  |none=>rw [hl] at h3;dsimp only at h3;rw [h3] at h4;cases h4
  |some o=>
   rw [hl] at h3
   dsimp only at h3
   obtain ⟨e1,e2⟩:=lastOf_some hl
   cases hd:o.del with
   |false=>rw [hd] at h3;cases h3
   |true=>
    have:o.val=[]:=by
     have:=congrArg BOp.val e2
     unfold BOp.nrm at this
     rw [hd] at this
     exact this.symm
    obtain ⟨d,k,v⟩:=o
    obtain ⟨d',k',v'⟩:=x
    dsimp only at *
    rw [hd,this,e1,h1,h2]
 ·rw [hs] at h2
  unfold says at h2
  cases hl:zBr S x.key with
  |none=>rw [hl] at h2;exact absurd h2 h3
  |some o=>
   rw [hl] at h2
   dsimp only at h2
   obtain ⟨e1,-⟩:=lastOf_some hl
   cases hd:o.del with
   |true=>rw [hd] at h2;cases h2
   |false=>
    rw [hd] at h2
    obtain ⟨d,k,v⟩:=o
    obtain ⟨d',k',v'⟩:=x
    dsimp only at *
    simp at h2
    rw [hd,h2,e1,h1]
theorem between_small {a:Rows} (ha:RisR a) (S:List BOp):sumW opW (zAr a (zAp a S))≤sumW opW S∧(zAr a (zAp a S)).length≤S.length:=by
 have hb:RisR (zAp a S):=applyB_ris ha S
 have h1:=sumW_sub opW (between_rising ha hb) (normD_rising S) (between_in ha S)
 have h2:=sum_norm S
 have h3:=rising_len (between_rising ha hb) (normD_rising S) (between_in ha S)
 have h4:=nrm_len S
 exact ⟨by omega,by omega⟩
end Go.Proofs.YtahgdagcnkpnbaaGreatDoor
namespace Go.Proofs.YtahgdagcnkpnbaaGreatDoor
open Go Go.RowKit
structure TOp where
 kind:Int
 key:List UInt8
 val:List UInt8
 n:Int
 i:Int
def lightW (p:List UInt8 × List UInt8):Nat:=8+min p.1.length 16384+min p.2.length 16384
def lightN (l:Rows):Nat:=sumW lightW l
def heavyW (o:TOp):Nat:=16+min o.key.length 65536+min o.val.length 65536+(if o.kind=13 then 400 else 0)+(if o.kind=11 then 400 else 0)
def heavyN (S:List TOp):Nat:=sumW heavyW S
theorem sumW_mem {γ:Type} (w:γ→Nat) {l:List γ} {x:γ} (h:x ∈ l):w x≤sumW w l:=by
 induction l with
 |nil=>cases h
 |cons y l ih=>
  rw [zCi]
  rcases List.mem_cons.1 h with rfl|h
  ·omega
  ·have:=ih h;omega
theorem sumW_le {γ:Type} {w v:γ→Nat} {l:List γ} (h:∀ x ∈ l,w x≤v x):sumW w l≤sumW v l:=by
 induction l with
 |nil=>exact Nat.le_refl _
 |cons y l ih=>
  rw [zCi,zCi]
  have h1:=h y (List.mem_cons_self ..)
  have h2:=ih fun x hx=>h x (List.mem_cons_of_mem _ hx)
  omega
theorem sumW_const {γ:Type} {w:γ→Nat} {c:Nat} {l:List γ} (h:∀ x ∈ l,c≤w x):l.length*c≤sumW w l:=by
 induction l with
 |nil=>simp [sumW]
 |cons y l ih=>
  rw [zCi,List.length_cons,Nat.succ_mul]
  have h1:=h y (List.mem_cons_self ..)
  have h2:=ih fun x hx=>h x (List.mem_cons_of_mem _ hx)
  omega
theorem sumW_next {γ:Type} (w:γ→Nat) {l:List γ} {i:Nat} {x:γ} (h:l[i]? = some x):sumW w (l.take (i+1))=sumW w (l.take i)+w x:=by
 rw [List.take_add_one,h,sumW_append]
 show _+sumW w [x]=_
 rw [zCi]
 have:sumW w ([]:List γ)=0:=rfl
 omega
theorem sumW_take {γ:Type} (w:γ→Nat) (l:List γ) (i:Nat):sumW w (l.take i)≤sumW w l:=by
 have:sumW w l=sumW w (l.take i)+sumW w (l.drop i):=by rw [← sumW_append,List.take_append_drop]
 omega
structure LightI (l:Rows):Prop where
 short:∀ p ∈ l,p.1.length≤8192∧p.2.length≤8192
 sum:sumW rowZ l≤8192
 len:l.length≤1024
theorem light_in {l:Rows} (h:lightN l≤8192):LightI l:=by
 have hs:∀ p ∈ l,p.1.length≤8192∧p.2.length≤8192:=fun p hp=>by
  have h1:=sumW_mem lightW hp
  have h2:lightN l=sumW lightW l:=rfl
  have e1:lightW p=8+min p.1.length 16384+min p.2.length 16384:=rfl
  rw [e1,← h2] at h1
  omega
 refine ⟨hs,Nat.le_trans (sumW_le fun p hp=>?_) h,?_⟩
 ·obtain ⟨h1,h2⟩:=hs p hp
  have a1:=vu_two (n:=p.1.length) (by omega)
  have a2:=vu_two (n:=p.2.length) (by omega)
  unfold rowZ rowB tx lightW
  rw [List.length_append,List.length_append,List.length_append]
  omega
 ·have h3:=sumW_const (w:=lightW) (c:=8) (l:=l) fun p _=>by unfold lightW;omega
  have h2:lightN l=sumW lightW l:=rfl
  omega
theorem sum_ofR (l:Rows):sumW rowZ (ofR l)≤sumW rowZ l∧RisR (ofR l):=by
 have key:∀ (l r:Rows),RisR r→sumW rowZ (l.foldl (fun r p=>putR r p.1 p.2) r)≤sumW rowZ r+sumW rowZ l∧RisR (l.foldl (fun r p=>putR r p.1 p.2) r):=by
  intro l
  induction l with
  |nil=>intro r hr;exact ⟨Nat.le_refl _,hr⟩
  |cons p l ih=>
   intro r hr
   obtain ⟨h1,h2⟩:=ih (putR r p.1 p.2) (putR_ris hr _ _)
   have h3:=sum_put hr p.1 p.2
   have e:rowZ (p.1,p.2)=rowZ p:=rfl
   rw [e] at h3
   rw [zCi]
   exact ⟨by rw [List.foldl_cons];omega,h2⟩
 obtain ⟨h1,h2⟩:=key l [] List.Pairwise.nil
 have:sumW rowZ ([]:Rows)=0:=rfl
 rw [this,Nat.zero_add] at h1
 exact ⟨h1,h2⟩
theorem LightI.snap {l:Rows} (h:LightI l):(zAy (ofR l)).length≤8194∧(ofR l).length≤1024:=by
 have h1:=(sum_ofR l).1
 have h2:=h.sum
 have h3:=ofR_len l []
 have h4:=h.len
 have h5:(ofR l).length≤1024:=by
  show (l.foldl _ []).length≤_
  have:([]:Rows).length=0:=rfl
  omega
 have h6:=vu_two (n:=(ofR l).length) (by omega)
 exact ⟨by rw [snap_sum];omega,h5⟩
def opTx (o:TOp):BOp:=if o.kind=3 then ⟨true,o.key,[]⟩ else ⟨false,o.key,o.val⟩
structure HeavyI (S:List TOp):Prop where
 short:∀ o ∈ S,o.key.length≤16384∧o.val.length≤16384
 sum:sumW opW (S.map opTx)≤16384
 len:S.length≤1024
theorem heavy_in {S:List TOp} (h:heavyN S≤16384):HeavyI S:=by
 have h0:heavyN S=sumW heavyW S:=rfl
 have hs:∀ o ∈ S,o.key.length≤16384∧o.val.length≤16384:=fun o ho=>by
  have h1:=sumW_mem heavyW ho
  have e1:heavyW o=16+min o.key.length 65536+min o.val.length 65536+(if o.kind=13 then 400 else 0)+(if o.kind=11 then 400 else 0):=rfl
  rw [e1,← h0] at h1
  omega
 refine ⟨hs,Nat.le_trans ?_ h,?_⟩
 ·have e:sumW opW (S.map opTx)=sumW (fun o=>opW (opTx o)) S:=by unfold sumW;rw [List.map_map];rfl
  rw [e,h0]
  refine sumW_le fun o ho=>?_
  obtain ⟨h1,h2⟩:=hs o ho
  have a1:=vu_three (n:=o.key.length) (by omega)
  have a2:=vu_three (n:=o.val.length) (by omega)
  unfold opW encOp opTx heavyW
  split
  ·simp only [tx,List.length_cons,List.length_append,if_true]
   omega
  ·simp only [tx,List.length_cons,List.length_append,Bool.false_eq_true,if_false]
   omega
 ·have h3:=sumW_const (w:=heavyW) (c:=16) (l:=S) fun o _=>by unfold heavyW;omega
  omega
theorem sum_applyB {r:Rows} (hr:RisR r) (S:List BOp):sumW rowZ (zAp r S)≤sumW rowZ r+sumW opW S:=by
 induction S generalizing r with
 |nil=>exact Nat.le_refl _
 |cons o S ih=>
  have h1:=ih (apply1_ris hr o)
  have h2:sumW rowZ (apply1 r o)≤sumW rowZ r+opW o:=by
   unfold apply1
   split
   ·have:=sum_del r o.key;omega
   ·rename_i hd
    have h3:=sum_put hr o.key o.val
    have h4:rowZ (o.key,o.val)≤opW o:=by
     unfold rowZ rowB opW encOp
     rw [if_neg hd]
     simp
    omega
  rw [zCi]
  show sumW rowZ (zAp (apply1 r o) S)≤_
  omega
theorem comm_fits {l:Rows} {S:List TOp} (hl:LightI l) (hS:HeavyI S):commE 400 (ofR l) (zAr (ofR l) (zAp (ofR l) (S.map opTx)))=0∧(zAy (zAp (ofR l) (S.map opTx))).length≤24600∧(zAp (ofR l) (S.map opTx)).length≤2048:=by
 obtain ⟨h1,h2⟩:=sum_ofR l
 have h3:=hl.sum
 have h4:=hS.sum
 have h5:=hS.len
 obtain ⟨h6,h7⟩:=hl.snap
 have h8:=applyB_len (S.map opTx) (ofR l)
 rw [List.length_map] at h8
 have hb:=applyB_ris h2 (S.map opTx)
 obtain ⟨b1,b2⟩:=between_small h2 (S.map opTx)
 rw [List.length_map] at b2
 have s1:=sum_applyB h2 (S.map opTx)
 have s2:=snap_sum (zAp (ofR l) (S.map opTx))
 have s3:=vu_two (n:=(zAp (ofR l) (S.map opTx)).length) (by omega)
 have hnb:zBq (zAr (ofR l) (zAp (ofR l) (S.map opTx)))=zAr (ofR l) (zAp (ofR l) (S.map opTx)):=by rw [← between_prog h2 hb,normD_idem]
 have hap:zAp (ofR l) (zAr (ofR l) (zAp (ofR l) (S.map opTx)))=zAp (ofR l) (S.map opTx):=between_apply h2 hb
 have e1:=enc_sum (zAr (ofR l) (zAp (ofR l) (S.map opTx)))
 have e2:=vu_two (n:=(zAr (ofR l) (zAp (ofR l) (S.map opTx))).length) (by omega)
 have hlN:logN 400=134:=rfl
 have hlA:layA 400=132:=rfl
 have hlv:=largest_val (n:=134) (by omega) (by omega)
 refine ⟨?_,by omega,by omega⟩
 unfold commE
 rw [hnb,hap,hlN,hlA]
 split
 ·rfl
 ·rw [if_neg (by omega),if_neg (by omega)]
end Go.Proofs.YtahgdagcnkpnbaaGreatDoor
namespace Go.Proofs.YtahgdagcnkpnbaaGreatDoor
open Go Go.RowKit
def rowAt (Rs:List Rows) (r:Rows) (j:Nat):Rows:=((Rs++[r])[j]?).getD []
theorem rowAt_get {Rs:List Rows} {r:Rows} {j:Nat} (h:j≤Rs.length):(Rs++[r])[j]? = some (rowAt Rs r j):=by
 unfold rowAt
 rw [List.getElem?_eq_getElem (by rw [List.length_append,List.length_singleton];omega)]
 rfl
theorem rowAt_take {Rs:List Rows} {r:Rows} {j:Nat} (h:j≤Rs.length):Rs.take j++[rowAt Rs r j]=(Rs++[r]).take (j+1):=by
 rw [List.take_add_one,rowAt_get h,List.take_append_of_le_length h]
 rfl
theorem TxKB.cut {r0:Rows} {Rs:List Rows} {r:Rows} {m j:Nat} {K:List (List UInt8 × Bool)} {U:List UE} (h:TxKB r0 Rs r m K U) (hj:j≤Rs.length):TxKB r0 (Rs.take j) (rowAt Rs r j) m K (U.take j):=by
 have hul:=h.ul
 have hum:=h.um
 have ht:=rowAt_take (r:=r) hj
 have hin:∀ x ∈ Rs.take j++[rowAt Rs r j],x ∈ Rs++[r]:=fun x hx=>by
  rw [ht] at hx
  exact List.mem_of_mem_take hx
 refine ⟨by rw [List.length_take,List.length_take,hul],by rw [List.length_take];omega,h.kl,h.nd,fun x hx=>h.ris x (hin x hx),fun x hx=>h.all x (hin x hx),fun i u x y h1 h2 h3=>?_⟩
 have hi:i<j:=by
  have:=(List.getElem?_eq_some_iff.1 h1).1
  rw [List.length_take] at this
  omega
 rw [List.getElem?_take_of_lt hi] at h1
 rw [ht,List.getElem?_take_of_lt (by omega)] at h2 h3
 exact h.undo i u x y h1 h2 h3
end Go.Proofs.YtahgdagcnkpnbaaGreatDoor
