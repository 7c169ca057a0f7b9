/-
  TxB, TxC, TxP3, TxL0, TxUB.
-/
import Derived.Test.YtnkhohfbijkohaaGreatDoorTEK
import Derived.Test.YtnkhohfbijkohaaGreatDoorTEP
import Derived.Test.YtnkhohfbijkohaaGreatDoorTEN
set_option maxHeartbeats 64000000
namespace Go.Proofs.YtnkhohfbijkohaaGreatDoor
open Go Go.RowKit
def undoR (r:Rows) (k old:List UInt8) (there:Bool):Rows:=bif there then putR r k old else mdel r k
structure TxKB (r0:Rows) (Rs:List Rows) (r:Rows) (m:Nat) (K:List (List UInt8 × Bool)) (U:List UE):Prop where
 ul:U.length=Rs.length
 um:U.length≤m
 kl:K.length≤m
 nd:(K.map (·.1)).Nodup
 ris:∀ x ∈ Rs++[r],RisR x
 all:∀ x ∈ Rs++[r],∀ k,lk x k≠lk r0 k→k ∈ K.map (·.1)
 undo:∀ i u x y,U[i]? = some u→(Rs++[r])[i]? = some x→(Rs++[r])[i+1]? = some y→undoR y u.key u.old u.there=x
theorem TxKB.rr {r0:Rows} {Rs:List Rows} {r:Rows} {m:Nat} {K:List (List UInt8 × Bool)} {U:List UE} (h:TxKB r0 Rs r m K U):RisR r:=h.ris r (by simp)
theorem mem_mput {K:List (List UInt8 × Bool)} {k key:List UInt8} (h:k=key∨k ∈ K.map (·.1)):k ∈ (mput K key true).map (·.1):=by
 rw [mem_keys_lk,lk_put]
 by_cases e:k=key
 ·rw [if_pos e];rfl
 ·rw [if_neg e]
  exact mem_keys_lk.1 (h.resolve_left e)
theorem TxKB.step {r0:Rows} {Rs:List Rows} {r r':Rows} {m:Nat} {K:List (List UInt8 × Bool)} {U:List UE} (h:TxKB r0 Rs r m K U) (e:UE) (hr':RisR r') (hk:∀ k,k≠e.key→lk r' k=lk r k) (hu:undoR r' e.key e.old e.there=r) :
 TxKB r0 (Rs++[r]) r' (m+1) (mput K e.key true) (U++[e]):=by
 have hul:=h.ul
 refine ⟨by simp [hul],by rw [List.length_append];exact Nat.succ_le_succ h.um,Nat.le_trans (mput_len _ _ _) (Nat.succ_le_succ h.kl),mput_nodup h.nd _ _,fun x hx=>?_,fun x hx k hk'=>?_,fun i u x y h1 h2 h3=>?_⟩
 ·rcases List.mem_append.1 hx with hx|hx
  ·exact h.ris x hx
  ·rw [List.mem_singleton.1 hx];exact hr'
 ·rcases List.mem_append.1 hx with hx|hx
  ·exact mem_mput (.inr (h.all x hx k hk'))
  ·rw [List.mem_singleton.1 hx] at hk'
   by_cases e1:k=e.key
   ·exact mem_mput (.inl e1)
   ·rw [hk k e1] at hk'
    exact mem_mput (.inr (h.all r (by simp) k hk'))
 ·by_cases hi:i<U.length
  ·rw [List.getElem?_append_left hi] at h1
   have l1:(Rs++[r]).length=U.length+1:=by simp [hul]
   rw [List.getElem?_append_left (by omega)] at h2 h3
   exact h.undo i u x y h1 h2 h3
  ·have hi2:i=U.length:=by
    have:=(List.getElem?_eq_some_iff.1 h1).1
    rw [List.length_append,List.length_singleton] at this
    omega
   subst hi2
   have l1:(Rs++[r]).length=U.length+1:=by simp [hul]
   rw [List.getElem?_append_right (Nat.le_refl _),Nat.sub_self] at h1
   rw [List.getElem?_append_left (by omega),hul,List.getElem?_append_right (Nat.le_refl _),Nat.sub_self] at h2
   rw [List.getElem?_append_right (by omega),show U.length+1-(Rs++[r]).length=0 by omega] at h3
   simp only [List.getElem?_cons_zero,Option.some.injEq] at h1 h2 h3
   rw [← h1,← h2,← h3]
   exact hu
theorem TxKB.back {r0:Rows} {Rs:List Rows} {r x:Rows} {m:Nat} {K:List (List UInt8 × Bool)} {U:List UE} {u:UE} (h:TxKB r0 (Rs++[x]) r m K (U++[u])):undoR r u.key u.old u.there=x∧TxKB r0 Rs x m K U:=by
 have hul:=h.ul
 simp only [List.length_append,List.length_singleton,Nat.add_right_cancel_iff] at hul
 have hum:=h.um
 rw [List.length_append,List.length_singleton] at hum
 refine ⟨h.undo U.length u x r (by simp) (by rw [hul];simp) (by rw [hul];simp),hul,by omega,h.kl,h.nd,fun y hy=>h.ris y (List.mem_append_left _ hy),fun y hy=>h.all y (List.mem_append_left _ hy),fun i v y z h1 h2 h3=>?_⟩
 have l1:=(List.getElem?_eq_some_iff.1 h1).1
 refine h.undo i v y z (by rw [List.getElem?_append_left l1];exact h1) ?_ ?_
 ·rw [List.getElem?_append_left (by simp;omega)];exact h2
 ·rw [List.getElem?_append_left (by simp;omega)];exact h3
theorem TxKB.k {r0:Rows} {Rs:List Rows} {r:Rows} {m:Nat} {K:List (List UInt8 × Bool)} {U:List UE} (h:TxKB r0 Rs r m K U):TxK r0 r m K U:=⟨h.um,h.kl,h.nd,h.all r (by simp)⟩
def TxB (t s:Nat) (r0:Rows) (Rs:List Rows) (r:Rows) (m:Nat):SP:=packP 88 t (fun x:{x:List (List UInt8 × Bool) × List UE//TxKB r0 Rs r m x.1 x.2}=>[TxP t s r x.1.1 x.1.2 false])
theorem TxB.star {t s m:Nat} {r0 r:Rows} {Rs:List Rows} {K:List (List UInt8 × Bool)} {U:List UE} (h:TxKB r0 Rs r m K U) {R:List SP}:∀ g,zBg (TxP t s r K U false::R) g→zBg (TxB t s r0 Rs r m::R) g:=fun g q=>
 pack_star (F:=fun x:{x:List (List UInt8 × Bool) × List UE//TxKB r0 Rs r m x.1 x.2}=>[TxP t s r x.1.1 x.1.2 false]) ⟨(K,U),h⟩ g q
end Go.Proofs.YtnkhohfbijkohaaGreatDoor
namespace Go.Proofs.YtnkhohfbijkohaaGreatDoor
open Go Go.RowKit
section
variable {P:Program} {W:World} {f:FuncId} {args:List Value} {X:Type} {r:X→Value}
theorem Ct.frm {Hp:List SP} {H':X→List SP} (h:Ct P W f args Hp r H') (F:List SP):Ct P W f args (Hp++F) r (fun x=>H' x++F):=
 ⟨fun R w s=>(h.go (F++R) w (by rw [← List.append_assoc];exact s)).mono fun _ _ ⟨x,he,hs⟩=>⟨x,he,by rw [List.append_assoc];exact hs⟩⟩
end
end Go.Proofs.YtnkhohfbijkohaaGreatDoor
namespace Go.Proofs.YtnkhohfbijkohaaGreatDoor
open Go Go.RowKit
def sumW {γ:Type} (w:γ→Nat) (l:List γ):Nat:=(l.map w).sum
theorem sumW_cons {γ:Type} (w:γ→Nat) (x:γ) (l:List γ):sumW w (x::l)=w x+sumW w l:=by unfold sumW;rw [List.map_cons,List.sum_cons]
theorem sumW_append {γ:Type} (w:γ→Nat) (l m:List γ):sumW w (l++m)=sumW w l+sumW w m:=by unfold sumW;rw [List.map_append,List.sum_append]
theorem sumW_filter {γ:Type} (w:γ→Nat) (p:γ→Bool) (l:List γ):sumW w (l.filter p)≤sumW w l:=by
 induction l with
 |nil=>exact Nat.le_refl _
 |cons x l ih=>
  rw [List.filter_cons,sumW_cons]
  split
  ·rw [sumW_cons];omega
  ·omega
theorem sumW_ins {γ:Type} (w:γ→Nat) (f:γ→List UInt8) (l:List γ) (x:γ):sumW w (insB f l x)=sumW w l+w x:=by
 have h:sumW w l=sumW w (l.take (atB f l (f x)))+sumW w (l.drop (atB f l (f x))):=by rw [← sumW_append,List.take_append_drop]
 rw [insB_eq,sumW_append,sumW_append,sumW_cons,h]
 have:sumW w ([]:List γ)=0:=rfl
 omega
def rowZ (p:List UInt8 × List UInt8):Nat:=(rowB p).length
theorem flatB_len {γ:Type} (g:γ→List UInt8) (l:List γ):(l.flatMap g).length=sumW (fun x=>(g x).length) l:=by
 induction l with
 |nil=>rfl
 |cons x l ih=>rw [List.flatMap_cons,List.length_append,ih,sumW_cons]
theorem snap_sum (r:Rows):(zAj r).length=(vu r.length).length+sumW rowZ r:=by unfold zAj;rw [List.length_append,flatB_len];rfl
theorem putR_ins {r:Rows} (hr:RisR r) (k v:List UInt8):putR r k v=insB Prod.fst (mdel r k) (k,v):=by
 have h1:=mdel_ris hr k
 have h2:hasB Prod.fst (mdel r k) k=false:=hasB_false.2 fun x hx e=>by
  have:=(List.mem_filter.1 hx).2
  simp at this
  exact this e
 have h3:putR (mdel r k) k v=insB Prod.fst (mdel r k) (k,v):=by unfold putR;rw [h2];rfl
 rw [← h3]
 refine rows_ext (putR_ris hr k v) (putR_ris h1 k v) fun y=>?_
 rw [lk_putR hr,lk_putR h1,lk_del]
 by_cases e:y=k
 ·rw [if_pos e,if_pos e]
 ·rw [if_neg e,if_neg e,if_neg e]
theorem sum_put {r:Rows} (hr:RisR r) (k v:List UInt8):sumW rowZ (putR r k v)≤sumW rowZ r+rowZ (k,v):=by
 rw [putR_ins hr,sumW_ins]
 have:sumW rowZ (mdel r k)≤sumW rowZ r:=sumW_filter _ _ _
 omega
theorem sum_del (r:Rows) (k:List UInt8):sumW rowZ (mdel r k)≤sumW rowZ r:=sumW_filter _ _ _
theorem vu_two {n:Nat} (h:n<16384):(vu n).length≤2:=by
 unfold vu vuF
 split
 ·simp
 ·unfold vuF
  split
  ·simp
  ·omega
def opW (o:BOp):Nat:=(encOp o).length
theorem enc_sum (l:List BOp):(zAx l).length=(vu l.length).length+sumW opW l:=by unfold zAx encOps;rw [List.length_append,flatB_len];rfl
theorem opW_nrm (o:BOp):opW o.nrm=opW o:=by
 obtain ⟨d,k,v⟩:=o
 cases d <;> rfl
theorem sum_norm (l:List BOp):sumW opW (zAr l)≤sumW opW l:=by
 induction l with
 |nil=>exact Nat.le_refl _
 |cons o r ih=>
  rw [sumW_cons]
  unfold zAr
  split
  ·omega
  ·rw [sumW_ins,opW_nrm];omega
end Go.Proofs.YtnkhohfbijkohaaGreatDoor
namespace Go.Proofs.YtnkhohfbijkohaaGreatDoor
open Go Go.RowKit
theorem sumW_mem {γ:Type} (w:γ→Nat) {l:List γ} {x:γ} (h:x ∈ l):w x≤sumW w l:=by
 induction l with
 |nil=>cases h
 |cons y l ih=>
  rw [sumW_cons]
  rcases List.mem_cons.1 h with rfl|h
  ·omega
  ·have:=ih h;omega
theorem sumW_const {γ:Type} {w:γ→Nat} {c:Nat} {l:List γ} (h:∀ x ∈ l,c≤w x):l.length*c≤sumW w l:=by
 induction l with
 |nil=>simp [sumW]
 |cons y l ih=>
  rw [sumW_cons,List.length_cons,Nat.succ_mul]
  have h1:=h y (List.mem_cons_self ..)
  have h2:=ih fun x hx=>h x (List.mem_cons_of_mem _ hx)
  omega
structure LightI (l:Rows):Prop where
 short:∀ p ∈ l,p.1.length≤8192∧p.2.length≤8192
 sum:sumW rowZ l≤8192
 len:l.length≤1024
theorem sum_ofR (l:Rows):sumW rowZ (ofR l)≤sumW rowZ l∧RisR (ofR l):=by
 have key:∀ (l r:Rows),RisR r→sumW rowZ (l.foldl (fun r p=>putR r p.1 p.2) r)≤sumW rowZ r+sumW rowZ l∧RisR (l.foldl (fun r p=>putR r p.1 p.2) r):=by
  intro l
  induction l with
  |nil=>intro r hr;exact ⟨Nat.le_refl _,hr⟩
  |cons p l ih=>
   intro r hr
   obtain ⟨h1,h2⟩:=ih (putR r p.1 p.2) (putR_ris hr _ _)
   have h3:=sum_put hr p.1 p.2
   have e:rowZ (p.1,p.2)=rowZ p:=rfl
   rw [e] at h3
   rw [sumW_cons]
   exact ⟨by rw [List.foldl_cons];omega,h2⟩
 obtain ⟨h1,h2⟩:=key l [] List.Pairwise.nil
 have:sumW rowZ ([]:Rows)=0:=rfl
 rw [this,Nat.zero_add] at h1
 exact ⟨h1,h2⟩
theorem LightI.snap {l:Rows} (h:LightI l):(zAj (ofR l)).length≤8194∧(ofR l).length≤1024:=by
 have h1:=(sum_ofR l).1
 have h2:=h.sum
 have h3:=ofR_len l []
 have h4:=h.len
 have h5:(ofR l).length≤1024:=by
  show (l.foldl _ []).length≤_
  have:([]:Rows).length=0:=rfl
  omega
 have h6:=vu_two (n:=(ofR l).length) (by omega)
 exact ⟨by rw [snap_sum];omega,h5⟩
theorem sum_applyB {r:Rows} (hr:RisR r) (S:List BOp):sumW rowZ (zAu r S)≤sumW rowZ r+sumW opW S:=by
 induction S generalizing r with
 |nil=>exact Nat.le_refl _
 |cons o S ih=>
  have h1:=ih (apply1_ris hr o)
  have h2:sumW rowZ (apply1 r o)≤sumW rowZ r+opW o:=by
   unfold apply1
   split
   ·have:=sum_del r o.key;omega
   ·rename_i hd
    have h3:=sum_put hr o.key o.val
    have h4:rowZ (o.key,o.val)≤opW o:=by
     unfold rowZ rowB opW encOp
     rw [if_neg hd]
     simp
    omega
  rw [sumW_cons]
  show sumW rowZ (zAu (apply1 r o) S)≤_
  omega
end Go.Proofs.YtnkhohfbijkohaaGreatDoor
namespace Go.Proofs.YtnkhohfbijkohaaGreatDoor
open Go Go.RowKit
def rowAt (Rs:List Rows) (r:Rows) (j:Nat):Rows:=((Rs++[r])[j]?).getD []
theorem rowAt_get {Rs:List Rows} {r:Rows} {j:Nat} (h:j≤Rs.length):(Rs++[r])[j]? = some (rowAt Rs r j):=by
 unfold rowAt
 rw [List.getElem?_eq_getElem (by rw [List.length_append,List.length_singleton];omega)]
 rfl
theorem rowAt_take {Rs:List Rows} {r:Rows} {j:Nat} (h:j≤Rs.length):Rs.take j++[rowAt Rs r j]=(Rs++[r]).take (j+1):=by
 rw [List.take_add_one,rowAt_get h,List.take_append_of_le_length h]
 rfl
theorem TxKB.cut {r0:Rows} {Rs:List Rows} {r:Rows} {m j:Nat} {K:List (List UInt8 × Bool)} {U:List UE} (h:TxKB r0 Rs r m K U) (hj:j≤Rs.length):TxKB r0 (Rs.take j) (rowAt Rs r j) m K (U.take j):=by
 have hul:=h.ul
 have hum:=h.um
 have ht:=rowAt_take (r:=r) hj
 have hin:∀ x ∈ Rs.take j++[rowAt Rs r j],x ∈ Rs++[r]:=fun x hx=>by
  rw [ht] at hx
  exact List.mem_of_mem_take hx
 refine ⟨by rw [List.length_take,List.length_take,hul],by rw [List.length_take];omega,h.kl,h.nd,fun x hx=>h.ris x (hin x hx),fun x hx=>h.all x (hin x hx),fun i u x y h1 h2 h3=>?_⟩
 have hi:i<j:=by
  have:=(List.getElem?_eq_some_iff.1 h1).1
  rw [List.length_take] at this
  omega
 rw [List.getElem?_take_of_lt hi] at h1
 rw [ht,List.getElem?_take_of_lt (by omega)] at h2 h3
 exact h.undo i u x y h1 h2 h3
end Go.Proofs.YtnkhohfbijkohaaGreatDoor
