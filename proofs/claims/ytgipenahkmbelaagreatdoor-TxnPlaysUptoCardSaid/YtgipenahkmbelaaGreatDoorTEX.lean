/-
  TxP3, TxL0, TxB, TxC, TxU, TxL1, TxUB.
-/
import Derived.Test.YtgipenahkmbelaaGreatDoorTEQ
import Derived.Test.YtgipenahkmbelaaGreatDoorTEP
import Derived.Test.YtgipenahkmbelaaGreatDoorTES
set_option maxHeartbeats 64000000
namespace Go.Proofs.YtgipenahkmbelaaGreatDoor
open Go Go.RowKit
abbrev plTEX0:Pl:=(.op 0 (.op 1 (.op 2 (.op 3 (.op 4 (.op 5 (.ef 6 [] .nil)))))))
abbrev plTEX1:Pl:=(.op 0 (.op 1 (.op 2 (.op 3 (.op 4 (.ef 5 [] .nil))))))
def sumW {γ:Type} (w:γ→Nat) (l:List γ):Nat:=(l.map w).sum
theorem sumW_cons {γ:Type} (w:γ→Nat) (x:γ) (l:List γ):sumW w (x::l)=w x+sumW w l:=by unfold sumW;rw [List.map_cons,List.sum_cons]
theorem sumW_append {γ:Type} (w:γ→Nat) (l m:List γ):sumW w (l++m)=sumW w l+sumW w m:=by unfold sumW;rw [List.map_append,List.sum_append]
theorem sumW_filter {γ:Type} (w:γ→Nat) (p:γ→Bool) (l:List γ):sumW w (l.filter p)≤sumW w l:=by
 induction l with
 |nil=>exact Nat.le_refl _
 |cons x l ih=>
  rw [List.filter_cons,sumW_cons]
  split
  ·rw [sumW_cons];omega
  ·omega
theorem sumW_ins {γ:Type} (w:γ→Nat) (f:γ→List UInt8) (l:List γ) (x:γ):sumW w (insB f l x)=sumW w l+w x:=by
 have h:sumW w l=sumW w (l.take (atB f l (f x)))+sumW w (l.drop (atB f l (f x))):=by rw [← sumW_append,List.take_append_drop]
 rw [insB_eq,sumW_append,sumW_append,sumW_cons,h]
 have:sumW w ([]:List γ)=0:=rfl
 omega
theorem sumW_sub {γ:Type} (w:γ→Nat) {f:γ→List UInt8} [DecidableEq γ] {l r:List γ} (hl:Rising f l) (hr:Rising f r) (h:∀ x ∈ l,x ∈ r):sumW w l≤sumW w r:=by
 have e:l=r.filter fun x=>decide (x ∈ l):=rising_eq hl (hr.sublist List.filter_sublist) fun x=>by
  rw [List.mem_filter]
  constructor
  ·intro hx;exact ⟨h x hx,decide_eq_true hx⟩
  ·intro hx;exact of_decide_eq_true hx.2
 rw [e]
 exact sumW_filter w _ r
def rowZ (p:List UInt8 × List UInt8):Nat:=(rowB p).length
theorem flatB_len {γ:Type} (g:γ→List UInt8) (l:List γ):(l.flatMap g).length=sumW (fun x=>(g x).length) l:=by
 induction l with
 |nil=>rfl
 |cons x l ih=>rw [List.flatMap_cons,List.length_append,ih,sumW_cons]
theorem snap_sum (r:Rows):(zBd r).length=(vu r.length).length+sumW rowZ r:=by unfold zBd;rw [List.length_append,flatB_len];rfl
theorem putR_ins {r:Rows} (hr:RisR r) (k v:List UInt8):putR r k v=insB Prod.fst (mdel r k) (k,v):=by
 have h1:=mdel_ris hr k
 have h2:hasB Prod.fst (mdel r k) k=false:=hasB_false.2 fun x hx e=>by
  have:=(List.mem_filter.1 hx).2
  simp at this
  exact this e
 have h3:putR (mdel r k) k v=insB Prod.fst (mdel r k) (k,v):=by unfold putR;rw [h2];rfl
 rw [← h3]
 refine rows_ext (putR_ris hr k v) (putR_ris h1 k v) fun y=>?_
 rw [lk_putR hr,lk_putR h1,lk_del]
 by_cases e:y=k
 ·rw [if_pos e,if_pos e]
 ·rw [if_neg e,if_neg e,if_neg e]
theorem sum_put {r:Rows} (hr:RisR r) (k v:List UInt8):sumW rowZ (putR r k v)≤sumW rowZ r+rowZ (k,v):=by
 rw [putR_ins hr,sumW_ins]
 have:sumW rowZ (mdel r k)≤sumW rowZ r:=sumW_filter _ _ _
 omega
theorem sum_del (r:Rows) (k:List UInt8):sumW rowZ (mdel r k)≤sumW rowZ r:=sumW_filter _ _ _
theorem vu_two {n:Nat} (h:n<16384):(vu n).length≤2:=by
 unfold vu vuF
 split
 ·simp
 ·unfold vuF
  split
  ·simp
  ·omega
theorem vu_three {n:Nat} (h:n<2097152):(vu n).length≤3:=by
 unfold vu vuF
 split
 ·simp
 ·unfold vuF
  split
  ·simp
  ·unfold vuF
   split
   ·simp
   ·omega
def opW (o:BOp):Nat:=(encOp o).length
theorem enc_sum (l:List BOp):(encAll l).length=(vu l.length).length+sumW opW l:=by unfold encAll encOps;rw [List.length_append,flatB_len];rfl
theorem opW_nrm (o:BOp):opW o.nrm=opW o:=by
 obtain ⟨d,k,v⟩:=o
 cases d <;> rfl
theorem sum_norm (l:List BOp):sumW opW (zBy l)≤sumW opW l:=by
 induction l with
 |nil=>exact Nat.le_refl _
 |cons o r ih=>
  rw [sumW_cons]
  unfold zBy
  split
  ·omega
  ·rw [sumW_ins,opW_nrm];omega
theorem between_in {a:Rows} (ha:RisR a) (S:List BOp):∀ x ∈ zAs a (zAf a S),x ∈ zBy S:=by
 intro x hx
 have hb:RisR (zAf a S):=applyB_ris ha S
 rw [normD_mem]
 have hn:=(between_mem ha hb x).1 hx
 have hs:∀ k,lk (zAf a S) k=says a S k:=lk_applyB ha S
 rcases hn with ⟨h1,h2,h3,h4⟩|⟨h1,h2,h3⟩
 ·rw [hs] at h3
  unfold says at h3
  cases hl:zBx S x.key with
  |none=>rw [hl] at h3;dsimp only at h3;rw [h3] at h4;cases h4
  |some o=>
   rw [hl] at h3
   dsimp only at h3
   obtain ⟨e1,e2⟩:=lastOf_some hl
   cases hd:o.del with
   |false=>rw [hd] at h3;cases h3
   |true=>
    have:o.val=[]:=by
     have:=congrArg BOp.val e2
     unfold BOp.nrm at this
     rw [hd] at this
     exact this.symm
    obtain ⟨d,k,v⟩:=o
    obtain ⟨d',k',v'⟩:=x
    dsimp only at *
    rw [hd,this,e1,h1,h2]
 ·rw [hs] at h2
  unfold says at h2
  cases hl:zBx S x.key with
  |none=>rw [hl] at h2;exact absurd h2 h3
  |some o=>
   rw [hl] at h2
   dsimp only at h2
   obtain ⟨e1,-⟩:=lastOf_some hl
   cases hd:o.del with
   |true=>rw [hd] at h2;cases h2
   |false=>
    rw [hd] at h2
    obtain ⟨d,k,v⟩:=o
    obtain ⟨d',k',v'⟩:=x
    dsimp only at *
    simp at h2
    rw [hd,h2,e1,h1]
theorem between_small {a:Rows} (ha:RisR a) (S:List BOp):sumW opW (zAs a (zAf a S))≤sumW opW S∧(zAs a (zAf a S)).length≤S.length:=by
 have hb:RisR (zAf a S):=applyB_ris ha S
 have h1:=sumW_sub opW (between_rising ha hb) (normD_rising S) (between_in ha S)
 have h2:=sum_norm S
 have h3:=rising_len (between_rising ha hb) (normD_rising S) (between_in ha S)
 have h4:=nrm_len S
 exact ⟨by omega,by omega⟩
end Go.Proofs.YtgipenahkmbelaaGreatDoor
namespace Go.Proofs.YtgipenahkmbelaaGreatDoor
open Go Go.RowKit
structure TOp where
 kind:Int
 key:List UInt8
 val:List UInt8
 n:Int
 i:Int
def lightW (p:List UInt8 × List UInt8):Nat:=8+min p.1.length 16384+min p.2.length 16384
def lightN (l:Rows):Nat:=sumW lightW l
def zBa (o:TOp):Nat:=16+min o.key.length 65536+min o.val.length 65536+(if o.kind=13 then 400 else 0)+(if o.kind=11 then 400 else 0)
def heavyN (S:List TOp):Nat:=sumW zBa S
theorem sumW_mem {γ:Type} (w:γ→Nat) {l:List γ} {x:γ} (h:x ∈ l):w x≤sumW w l:=by
 induction l with
 |nil=>cases h
 |cons y l ih=>
  rw [sumW_cons]
  rcases List.mem_cons.1 h with rfl|h
  ·omega
  ·have:=ih h;omega
theorem sumW_le {γ:Type} {w v:γ→Nat} {l:List γ} (h:∀ x ∈ l,w x≤v x):sumW w l≤sumW v l:=by
 induction l with
 |nil=>exact Nat.le_refl _
 |cons y l ih=>
  rw [sumW_cons,sumW_cons]
  have h1:=h y (List.mem_cons_self ..)
  have h2:=ih fun x hx=>h x (List.mem_cons_of_mem _ hx)
  omega
theorem sumW_const {γ:Type} {w:γ→Nat} {c:Nat} {l:List γ} (h:∀ x ∈ l,c≤w x):l.length*c≤sumW w l:=by
 induction l with
 |nil=>simp [sumW]
 |cons y l ih=>
  rw [sumW_cons,List.length_cons,Nat.succ_mul]
  have h1:=h y (List.mem_cons_self ..)
  have h2:=ih fun x hx=>h x (List.mem_cons_of_mem _ hx)
  omega
theorem sumW_next {γ:Type} (w:γ→Nat) {l:List γ} {i:Nat} {x:γ} (h:l[i]? = some x):sumW w (l.take (i+1))=sumW w (l.take i)+w x:=by
 rw [List.take_add_one,h,sumW_append]
 show _+sumW w [x]=_
 rw [sumW_cons]
 have:sumW w ([]:List γ)=0:=rfl
 omega
theorem sumW_take {γ:Type} (w:γ→Nat) (l:List γ) (i:Nat):sumW w (l.take i)≤sumW w l:=by
 have:sumW w l=sumW w (l.take i)+sumW w (l.drop i):=by rw [← sumW_append,List.take_append_drop]
 omega
structure LightI (l:Rows):Prop where
 short:∀ p ∈ l,p.1.length≤8192∧p.2.length≤8192
 sum:sumW rowZ l≤8192
 len:l.length≤1024
theorem light_in {l:Rows} (h:lightN l≤8192):LightI l:=by
 have hs:∀ p ∈ l,p.1.length≤8192∧p.2.length≤8192:=fun p hp=>by
  have h1:=sumW_mem lightW hp
  have h2:lightN l=sumW lightW l:=rfl
  have e1:lightW p=8+min p.1.length 16384+min p.2.length 16384:=rfl
  rw [e1,← h2] at h1
  omega
 refine ⟨hs,Nat.le_trans (sumW_le fun p hp=>?_) h,?_⟩
 ·obtain ⟨h1,h2⟩:=hs p hp
  have a1:=vu_two (n:=p.1.length) (by omega)
  have a2:=vu_two (n:=p.2.length) (by omega)
  unfold rowZ rowB tx lightW
  rw [List.length_append,List.length_append,List.length_append]
  omega
 ·have h3:=sumW_const (w:=lightW) (c:=8) (l:=l) fun p _=>by unfold lightW;omega
  have h2:lightN l=sumW lightW l:=rfl
  omega
theorem sum_ofR (l:Rows):sumW rowZ (ofR l)≤sumW rowZ l∧RisR (ofR l):=by
 have key:∀ (l r:Rows),RisR r→sumW rowZ (l.foldl (fun r p=>putR r p.1 p.2) r)≤sumW rowZ r+sumW rowZ l∧RisR (l.foldl (fun r p=>putR r p.1 p.2) r):=by
  intro l
  induction l with
  |nil=>intro r hr;exact ⟨Nat.le_refl _,hr⟩
  |cons p l ih=>
   intro r hr
   obtain ⟨h1,h2⟩:=ih (putR r p.1 p.2) (putR_ris hr _ _)
   have h3:=sum_put hr p.1 p.2
   have e:rowZ (p.1,p.2)=rowZ p:=rfl
   rw [e] at h3
   rw [sumW_cons]
   exact ⟨by rw [List.foldl_cons];omega,h2⟩
 obtain ⟨h1,h2⟩:=key l [] List.Pairwise.nil
 have:sumW rowZ ([]:Rows)=0:=rfl
 rw [this,Nat.zero_add] at h1
 exact ⟨h1,h2⟩
theorem LightI.snap {l:Rows} (h:LightI l):(zBd (ofR l)).length≤8194∧(ofR l).length≤1024:=by
 have h1:=(sum_ofR l).1
 have h2:=h.sum
 have h3:=ofR_len l []
 have h4:=h.len
 have h5:(ofR l).length≤1024:=by
  show (l.foldl _ []).length≤_
  have:([]:Rows).length=0:=rfl
  omega
 have h6:=vu_two (n:=(ofR l).length) (by omega)
 exact ⟨by rw [snap_sum];omega,h5⟩
theorem sum_applyB {r:Rows} (hr:RisR r) (S:List BOp):sumW rowZ (zAf r S)≤sumW rowZ r+sumW opW S:=by
 induction S generalizing r with
 |nil=>exact Nat.le_refl _
 |cons o S ih=>
  have h1:=ih (apply1_ris hr o)
  have h2:sumW rowZ (apply1 r o)≤sumW rowZ r+opW o:=by
   unfold apply1
   split
   ·have:=sum_del r o.key;omega
   ·rename_i hd
    have h3:=sum_put hr o.key o.val
    have h4:rowZ (o.key,o.val)≤opW o:=by
     unfold rowZ rowB opW encOp
     rw [if_neg hd]
     simp
    omega
  rw [sumW_cons]
  show sumW rowZ (zAf (apply1 r o) S)≤_
  omega
end Go.Proofs.YtgipenahkmbelaaGreatDoor
namespace Go.Proofs.YtgipenahkmbelaaGreatDoor
open Go Go.RowKit
def undoR (r:Rows) (k old:List UInt8) (there:Bool):Rows:=bif there then putR r k old else mdel r k
theorem undo_put {r:Rows} (h:RisR r) (k v:List UInt8):undoR (putR r k v) k ((lk r k).getD []) (lk r k).isSome=r:=by
 have hp:=putR_ris h k v
 cases hl:lk r k with
 |none=>
  show mdel (putR r k v) k=r
  refine rows_ext (mdel_ris hp k) h fun y=>?_
  rw [lk_del,lk_putR h]
  by_cases e:y=k
  ·rw [if_pos e,e,hl]
  ·rw [if_neg e,if_neg e]
 |some u=>
  show putR (putR r k v) k u=r
  refine rows_ext (putR_ris hp k u) h fun y=>?_
  rw [lk_putR hp,lk_putR h]
  by_cases e:y=k
  ·rw [if_pos e,e,hl]
  ·rw [if_neg e,if_neg e]
theorem undo_del {r:Rows} (h:RisR r) (k:List UInt8):undoR (mdel r k) k ((lk r k).getD []) (lk r k).isSome=r:=by
 have hp:=mdel_ris h k
 cases hl:lk r k with
 |none=>
  show mdel (mdel r k) k=r
  refine rows_ext (mdel_ris hp k) h fun y=>?_
  rw [lk_del,lk_del]
  by_cases e:y=k
  ·rw [if_pos e,e,hl]
  ·rw [if_neg e,if_neg e]
 |some u=>
  show putR (mdel r k) k u=r
  refine rows_ext (putR_ris hp k u) h fun y=>?_
  rw [lk_putR hp,lk_del]
  by_cases e:y=k
  ·rw [if_pos e,e,hl]
  ·rw [if_neg e,if_neg e]
structure TxKB (r0:Rows) (Rs:List Rows) (r:Rows) (m:Nat) (K:List (List UInt8 × Bool)) (U:List UE):Prop where
 ul:U.length=Rs.length
 um:U.length≤m
 kl:K.length≤m
 nd:(K.map (·.1)).Nodup
 ris:∀ x ∈ Rs++[r],RisR x
 all:∀ x ∈ Rs++[r],∀ k,lk x k≠lk r0 k→k ∈ K.map (·.1)
 undo:∀ i u x y,U[i]? = some u→(Rs++[r])[i]? = some x→(Rs++[r])[i+1]? = some y→undoR y u.key u.old u.there=x
theorem TxKB.rr {r0:Rows} {Rs:List Rows} {r:Rows} {m:Nat} {K:List (List UInt8 × Bool)} {U:List UE} (h:TxKB r0 Rs r m K U):RisR r:=h.ris r (by simp)
theorem mem_mput {K:List (List UInt8 × Bool)} {k key:List UInt8} (h:k=key∨k ∈ K.map (·.1)):k ∈ (mput K key true).map (·.1):=by
 rw [mem_keys_lk,lk_put]
 by_cases e:k=key
 ·rw [if_pos e];rfl
 ·rw [if_neg e]
  exact mem_keys_lk.1 (h.resolve_left e)
theorem TxKB.step {r0:Rows} {Rs:List Rows} {r r':Rows} {m:Nat} {K:List (List UInt8 × Bool)} {U:List UE} (h:TxKB r0 Rs r m K U) (e:UE) (hr':RisR r') (hk:∀ k,k≠e.key→lk r' k=lk r k) (hu:undoR r' e.key e.old e.there=r) :
 TxKB r0 (Rs++[r]) r' (m+1) (mput K e.key true) (U++[e]):=by
 have hul:=h.ul
 refine ⟨by simp [hul],by rw [List.length_append];exact Nat.succ_le_succ h.um,Nat.le_trans (mput_len _ _ _) (Nat.succ_le_succ h.kl),mput_nodup h.nd _ _,fun x hx=>?_,fun x hx k hk'=>?_,fun i u x y h1 h2 h3=>?_⟩
 ·rcases List.mem_append.1 hx with hx|hx
  ·exact h.ris x hx
  ·rw [List.mem_singleton.1 hx];exact hr'
 ·rcases List.mem_append.1 hx with hx|hx
  ·exact mem_mput (.inr (h.all x hx k hk'))
  ·rw [List.mem_singleton.1 hx] at hk'
   by_cases e1:k=e.key
   ·exact mem_mput (.inl e1)
   ·rw [hk k e1] at hk'
    exact mem_mput (.inr (h.all r (by simp) k hk'))
 ·by_cases hi:i<U.length
  ·rw [List.getElem?_append_left hi] at h1
   have l1:(Rs++[r]).length=U.length+1:=by simp [hul]
   rw [List.getElem?_append_left (by omega)] at h2 h3
   exact h.undo i u x y h1 h2 h3
  ·have hi2:i=U.length:=by
    have:=(List.getElem?_eq_some_iff.1 h1).1
    rw [List.length_append,List.length_singleton] at this
    omega
   subst hi2
   have l1:(Rs++[r]).length=U.length+1:=by simp [hul]
   rw [List.getElem?_append_right (Nat.le_refl _),Nat.sub_self] at h1
   rw [List.getElem?_append_left (by omega),hul,List.getElem?_append_right (Nat.le_refl _),Nat.sub_self] at h2
   rw [List.getElem?_append_right (by omega),show U.length+1-(Rs++[r]).length=0 by omega] at h3
   simp only [List.getElem?_cons_zero,Option.some.injEq] at h1 h2 h3
   rw [← h1,← h2,← h3]
   exact hu
theorem TxKB.back {r0:Rows} {Rs:List Rows} {r x:Rows} {m:Nat} {K:List (List UInt8 × Bool)} {U:List UE} {u:UE} (h:TxKB r0 (Rs++[x]) r m K (U++[u])):undoR r u.key u.old u.there=x∧TxKB r0 Rs x m K U:=by
 have hul:=h.ul
 simp only [List.length_append,List.length_singleton,Nat.add_right_cancel_iff] at hul
 have hum:=h.um
 rw [List.length_append,List.length_singleton] at hum
 refine ⟨h.undo U.length u x r (by simp) (by rw [hul];simp) (by rw [hul];simp),hul,by omega,h.kl,h.nd,fun y hy=>h.ris y (List.mem_append_left _ hy),fun y hy=>h.all y (List.mem_append_left _ hy),fun i v y z h1 h2 h3=>?_⟩
 have l1:=(List.getElem?_eq_some_iff.1 h1).1
 refine h.undo i v y z (by rw [List.getElem?_append_left l1];exact h1) ?_ ?_
 ·rw [List.getElem?_append_left (by simp;omega)];exact h2
 ·rw [List.getElem?_append_left (by simp;omega)];exact h3
theorem TxKB.k {r0:Rows} {Rs:List Rows} {r:Rows} {m:Nat} {K:List (List UInt8 × Bool)} {U:List UE} (h:TxKB r0 Rs r m K U):TxK r0 r m K U:=⟨h.um,h.kl,h.nd,h.all r (by simp)⟩
def TxBM (M:List Nd) (t s:Nat) (r0:Rows) (Rs:List Rows) (r:Rows) (m:Nat):SP:=packP 88 t (fun x:{x:List (List UInt8 × Bool) × List UE//TxKB r0 Rs r m x.1 x.2}=>[TxP M t s r x.1.1 x.1.2 false])
abbrev TxB (t s:Nat) (r0:Rows) (Rs:List Rows) (r:Rows) (m:Nat):SP:=TxBM [] t s r0 Rs r m
theorem TxB.star {M:List Nd} {t s m:Nat} {r0 r:Rows} {Rs:List Rows} {K:List (List UInt8 × Bool)} {U:List UE} (h:TxKB r0 Rs r m K U) {R:List SP}:∀ g,zAj (TxP M t s r K U false::R) g→zAj (TxBM M t s r0 Rs r m::R) g:=fun g q=>
 pack_star (F:=fun x:{x:List (List UInt8 × Bool) × List UE//TxKB r0 Rs r m x.1 x.2}=>[TxP M t s r x.1.1 x.1.2 false]) ⟨(K,U),h⟩ g q
section
variable {W:World} {M:List Nd} {F:Nat→Addr} {r0 r:Rows} {Rs:List Rows} {t s m:Nat}
theorem txgetB (key:List UInt8):Ct Tryz.prog W 14 [.pointer (some ⟨t,0,none⟩),strV key] [TxBM M t s r0 Rs r m] (fun _:Unit=>.tuple #[strV ((lk r key).getD []),.bool (lk r key).isSome]) (fun _=>[TxBM M t s r0 Rs r m]):=by
 refine zBm (Hs:=[]) fun ⟨(K,U),hU⟩=>?_
 exact (txget_ct (W:=W) key).to id (fun _=>rfl) (fun _ R g q=>TxB.star hU g q)
theorem txputB (key val:List UInt8) (hl:r.length≤288230376151711744) (hm:(m+1)*8≤140737488355328):Ct Tryz.prog W 11 [.pointer (some ⟨t,0,none⟩),strV key,strV val] [TxBM M t s r0 Rs r m] (fun _:Unit=>.nilIface) (fun _=>[TxBM M t s r0 (Rs++[r]) (putR r key val) (m+1)]):=by
 refine zBm (Hs:=[]) fun ⟨(K,U),hU⟩=>?_
 dsimp only at hU ⊢
 have hu:=hU.um
 have hr:=hU.rr
 exact (txput_ct (W:=W) key val hl (by omega)).to (fun _=>()) (fun _=>rfl) (fun _ R g q=>TxB.star (hU.step ⟨key,_,_,_,_,_,_⟩ (putR_ris hr _ _) (fun k hk=>by rw [lk_putR hr,if_neg hk]) (undo_put hr key val)) g q)
theorem txdelB (key:List UInt8) (hl:r.length≤288230376151711744) (hm:(m+1)*8≤140737488355328):Ct Tryz.prog W 12 [.pointer (some ⟨t,0,none⟩),strV key] [TxBM M t s r0 Rs r m] (fun _:Unit=>.nilIface) (fun _=>[TxBM M t s r0 (Rs++[r]) (mdel r key) (m+1)]):=by
 refine zBm (Hs:=[]) fun ⟨(K,U),hU⟩=>?_
 dsimp only at hU ⊢
 have hu:=hU.um
 have hr:=hU.rr
 exact (txdel_ct (W:=W) key hl (by omega)).to (fun _=>()) (fun _=>rfl) (fun _ R g q=>TxB.star (hU.step ⟨key,_,_,_,_,_,_⟩ (mdel_ris hr _) (fun k hk=>by rw [lk_del,if_neg hk]) (undo_del hr key)) g q)
end
end Go.Proofs.YtgipenahkmbelaaGreatDoor
namespace Go.Proofs.YtgipenahkmbelaaGreatDoor
open Go Go.RowKit
section
variable {P:Program} {W:World} {f:FuncId} {args:List Value} {X:Type} {r:X→Value}
theorem Ct.frm {Hp:List SP} {H':X→List SP} (h:Ct P W f args Hp r H') (F:List SP):Ct P W f args (Hp++F) r (fun x=>H' x++F):=
 ⟨fun R w s=>(h.go (F++R) w (by rw [← List.append_assoc];exact s)).mono fun _ _ ⟨x,he,hs⟩=>⟨x,he,by rw [List.append_assoc];exact hs⟩⟩
theorem Ct.swap2 {A B:SP} {H':X→List SP} (h:Ct P W f args [B,A] r H'):Ct P W f args [A,B] r H':=h.conv (fun _ _ q=>starL_swap _ q) (fun _ _ _ q=>q)
end
section
variable {W:World} {M:List Nd} {F:Nat→Addr} {r0 r:Rows} {Rs:List Rows} {t s m n k:Nat} {K:List (List UInt8 × Bool)} {U:List UE}
theorem txopsP (hn:(K.map (·.1)).Nodup) (hK:∀ k,lk r k≠lk r0 k→k ∈ K.map (·.1)) (hl:K.length*40≤140737488355328) :
 Ct Tryz.prog W 13 [.pointer (some ⟨t,0,none⟩)] [TxP M t s r K U false,StQ s n k r0] (fun x:Option Addr × Nat=>.slice x.1 (zAs r0 r).length x.2)
  (fun x=>[TxP M t s r K U false,StQ s n k r0,lsP opC 49 3 (.slice x.1 (zAs r0 r).length x.2) (zAs r0 r)]):=by
 refine Ct.swap2 ?_
 refine zBm fun ⟨⟨d,q,g,v,used,D,N,a,b⟩,hx⟩=>?_
 have h:=(txops_ct (W:=W) (M:=M) (t:=t) (s:=s) (d:=d) (q:=q) (n:=n) (a:=a) (b:=b) (U:=U) (r:=r) (v:Nat) (some ⟨g,0,none⟩) D.life false hx.tab hn hK hl).frm [DiskP d D,jouU g d n v used D.life]
 refine h.conv (fun R=>?_) (fun x R=>?_)
 ·have e:∀ g',zAj ([stP s d q n (v:Nat) (some ⟨g,0,none⟩) D.life false,DiskP d D,tbP q a b,arP N,jouU g d n v used D.life,TxP M t s r K U false]++R) g'→zAj ([TxP M t s r K U false,stP s d q n (v:Nat) (some ⟨g,0,none⟩) D.life false,tbP q a b,arP N,DiskP d D,jouU g d n v used D.life]++R) g':=(xN)
  exact e
 ·have e:∀ g',zAj ([TxP M t s r K U false,stP s d q n (v:Nat) (some ⟨g,0,none⟩) D.life false,tbP q a b,arP N,lsP opC 49 3 (.slice x.1 (zAs r0 r).length x.2) (zAs r0 r),DiskP d D,jouU g d n v used D.life]++R) g'→zAj ([stP s d q n (v:Nat) (some ⟨g,0,none⟩) D.life false,DiskP d D,tbP q a b,arP N,jouU g d n v used D.life,TxP M t s r K U false,lsP opC 49 3 (.slice x.1 (zAs r0 r).length x.2) (zAs r0 r)]++R) g':=(xN)
  intro g' q'
  have q2:=StQ.star (s:=s) (R:=TxP M t s r K U false::lsP opC 49 3 (.slice x.1 (zAs r0 r).length x.2) (zAs r0 r)::R) ⟨d,q,g,v,used,D,N,a,b⟩ hx g' (e g' q')
  exact starL_swap _ q2
theorem txopsQ (y:TxH) (hT:TbOk y.N y.a r) (hn:(K.map (·.1)).Nodup) (hK:∀ k,lk r k≠lk r0 k→k ∈ K.map (·.1)) (hl:K.length*40≤140737488355328) :
 Ct Tryz.prog W 13 [.pointer (some ⟨t,0,none⟩)] (StQ s n k r0::txL t s y K U false) (fun x:Option Addr × Nat=>.slice x.1 (zAs r0 r).length x.2)
  (fun x=>StQ s n k r0::(txL t s y K U false++[lsP opC 49 3 (.slice x.1 (zAs r0 r).length x.2) (zAs r0 r)])):=by
 refine zBm fun ⟨⟨d,q,g,v,used,D,N,a,b⟩,hx⟩=>?_
 have h:=(txopsO_ct (W:=W) (t:=t) (s:=s) (d:=d) (q:=q) (n:=n) (a:=a) (b:=b) (U:=U) (r:=r) y hT (v:Nat) (some ⟨g,0,none⟩) D.life false hx.tab hn hK hl).frm [DiskP d D,jouU g d n v used D.life]
 obtain ⟨T,hT2⟩:∃ T,T=txL t s y K U false:=⟨_,rfl⟩
 rw [← hT2] at h ⊢
 refine h.conv (fun R g' q'=>?_) (fun x R g' q'=>?_)
 ·refine starL_perm ?_ g' q'
  show (stL s n ⟨d,q,g,v,used,D,N,a,b⟩++T++R).Perm (T++[stP s d q n (v:Nat) (some ⟨g,0,none⟩) D.life false,tbP q a b,arP N]++[DiskP d D,jouU g d n v used D.life]++R)
  refine List.Perm.append_right R ?_
  rw [List.append_assoc]
  refine List.perm_append_comm.trans (List.Perm.append_left T ?_)
  exact List.Perm.cons _ (List.perm_middle (l₁:=[tbP q a b,arP N]) (l₂:=[jouU g d n v used D.life])).symm
 ·refine StQ.star (s:=s) (R:=T++[lsP opC 49 3 (.slice x.1 (zAs r0 r).length x.2) (zAs r0 r)]++R) ⟨d,q,g,v,used,D,N,a,b⟩ hx g' (starL_perm ?_ g' q')
  show (T++[stP s d q n (v:Nat) (some ⟨g,0,none⟩) D.life false,tbP q a b,arP N,lsP opC 49 3 (.slice x.1 (zAs r0 r).length x.2) (zAs r0 r)]++[DiskP d D,jouU g d n v used D.life]++R).Perm (stL s n ⟨d,q,g,v,used,D,N,a,b⟩++(T++[lsP opC 49 3 (.slice x.1 (zAs r0 r).length x.2) (zAs r0 r)]++R))
  rw [← List.append_assoc]
  refine List.Perm.append_right R ?_
  rw [List.append_assoc,← List.append_assoc (stL s n _)]
  have e:([stP s d q n (v:Nat) (some ⟨g,0,none⟩) D.life false,tbP q a b,arP N,lsP opC 49 3 (.slice x.1 (zAs r0 r).length x.2) (zAs r0 r)]++[DiskP d D,jouU g d n v used D.life]).Perm (stL s n ⟨d,q,g,v,used,D,N,a,b⟩++[lsP opC 49 3 (.slice x.1 (zAs r0 r).length x.2) (zAs r0 r)]):=by
   refine List.Perm.cons _ ?_
   refine (List.perm_middle (l₁:=[tbP q a b,arP N,lsP opC 49 3 (.slice x.1 (zAs r0 r).length x.2) (zAs r0 r)]) (l₂:=[jouU g d n v used D.life])).trans (List.Perm.cons _ ?_)
   exact List.Perm.cons _ (List.Perm.cons _ (List.Perm.swap _ _ _))
  refine (List.Perm.append_left T e).trans ?_
  rw [← List.append_assoc]
  exact List.Perm.append_right _ List.perm_append_comm
theorem txopsB (hm:m≤100000000):Ct Tryz.prog W 13 [.pointer (some ⟨t,0,none⟩)] [TxBM M t s r0 Rs r m,StQ s n k r0] (fun x:Option Addr × Nat=>.slice x.1 (zAs r0 r).length x.2)
 (fun x=>[TxBM M t s r0 Rs r m,StQ s n k r0,lsP opC 49 3 (.slice x.1 (zAs r0 r).length x.2) (zAs r0 r)]):=by
 refine zBm fun ⟨(K,U),hU⟩=>?_
 dsimp only at hU ⊢
 have hkl:=hU.kl
 exact (txopsP (W:=W) (t:=t) (s:=s) (n:=n) (k:=k) (U:=U) hU.nd (hU.all r (by simp)) (by omega)).to id (fun _=>rfl) (fun _ R g q=>TxB.star hU g q)
theorem txcommitP (hU:TxKB r0 Rs r m K U) (hE:ErrsOn L16 W F) (hE8:ErrsOn L8 W F) (hN:NibAt W) (h1:64≤n) (h2:n≤4096) (hk:k+1≤1099511627776) (hm:m≤100000000) (h0:RisR r0) (hl:r0.length≤100000000) (hbl:(zAs r0 r).length≤100000000) (hb:(encAll (zAs r0 r)).length≤1000000000) (hsb:(zBd r).length≤4611686018427387904) :
 Ct Tryz.prog W 55 [.pointer (some ⟨t,0,none⟩)] [TxP M t s r K U false,StQ s n k r0] (fun _:Unit=>errV F (commE n r0 (zAs r0 r)))
  (fun _=>[TxP M t s r K U true,StQ s n (k+1) (commR n r0 (zAs r0 r))]):=by
 have hkl:=hU.kl
 have hul:=hU.um
 have hr:=hU.rr
 have hnb:zBy (zAs r0 r)=zAs r0 r:=by rw [← between_prog h0 hr,normD_idem]
 have hap:zAf r0 (zAs r0 r)=r:=between_apply h0 hr
 have co:=txopsP (W:=W) (M:=M) (t:=t) (s:=s) (n:=n) (k:=k) (U:=U) hU.nd (hU.all r (by simp)) (by omega)
 have cc:=fun xa xc=>scommitQ (W:=W) (F:=F) (s:=s) (n:=n) (m:=k) (r:=r0) hE hE8 hN h1 h2 hk _ xa xc (zAs r0 r) (Lv.own (e:=49) (c:=xc) zCa rfl) hbl hl (by rw [hnb];exact hb) (by rw [hnb,hap];exact hsb)
 have h00:zAs r0 r=[]→commE n r0 (zAs r0 r)=0∧commR n r0 (zAs r0 r)=r0:=fun h=>by rw [h];exact ⟨rfl,rfl⟩
 obtain ⟨os,hos⟩:∃ os,os=zAs r0 r:=⟨_,rfl⟩
 rw [← hos] at co cc h00 ⊢
 refine Ct.enter Tryz.func55 rfl Tryz.ntmps55 (by simp) (fun R=>?_)
 apply KJ_rest (fun Kc=>∀ xa xc,KJ W 23 Kc [(0,.pointer (some ⟨t,0,none⟩)),(3,.slice xa os.length xc)]
  ([TxP M t s r K U false,StQ s n k r0,lsP opC 49 3 (.slice xa os.length xc) os]++R))
 ·intro rest
  refine KJ.txOpen xS (fun y hT1 hMy=>?_)
  repeat' (first|(refine at_seq_region (id:=3) ?_;refine KJ.txShut (s:=s) (K:=K) (U:=U) (ended:=false) y hT1 hMy xP ?_;refine hold ?_)|refine xst ?_|(refine xsa ?_;intro _)|(refine xsb ?_ ?_ <;>intro _<;>try (exfalso;omega))|refine xsc ?_|fail)
  refine Hold.mk ?_
  repeat' (first|(refine at_seq_region (id:=4) ?_;exact KJ.weak (rest _ _) xB (xN))|(refine zAd ?_;refine zAc xE co xP rfl (fun x=>?_);obtain ⟨xa,xc⟩:=x)|refine xst ?_|(refine xsa ?_;intro _)|(refine xsb ?_ ?_ <;>intro _<;>try (exfalso;omega))|refine xsc ?_|fail)
 intro xa xc
 by_cases hz:os=[]
 ·have q0:decide (((os.length:Nat):Int)=0)=true:=decide_eq_true (by rw [hz];rfl)
  obtain ⟨z1,z2⟩:=h00 hz
  rw [z1,z2]
  refine KJ.unpack_at (F:=fun x:{x:StH//StI n k r0 x}=>stL s n x.1) xS (fun ⟨x,hx⟩=>?_)
  have hx2:StI n (k+1) r0 x:=⟨hx.rdy,hx.v1,Nat.le_succ_of_le hx.vm,hx.used,hx.tab,hx.room⟩
  dsimp only
  refine KJ.packs (tag:=87) (key:=s) (F:=fun x:{x:StH//StI n (k+1) r0 x}=>stL s n x.1) ⟨x,hx2⟩ xP ?_
  refine KJ.txOpen xS (fun y hT1 hMy=>?_)
  repeat' (first|(refine zBg ?_;refine zAb (zAr rfl rfl q0) ?_)|refine xst ?_|(refine xsa ?_;intro _)|(refine xsb ?_ ?_ <;>intro _<;>try (exfalso;omega))|refine xsc ?_|fail)
  all_goals refine KJ.txShut (s:=s) (K:=K) (U:=U) (ended:=true) y hT1 hMy xP ?_
  all_goals (exact xdn ())
 have q0:decide (((os.length:Nat):Int)=0)=false:=decide_eq_false (by
  have:=List.length_pos_iff.2 hz
  omega)
 refine KJ.txOpen xS (fun y hT1 hMy=>?_)
 repeat' (first|(refine zAd ?_;refine zAc xE (cc _ _) xP rfl (fun z=>?_))|(refine zBg ?_;refine zAb (zAr rfl rfl q0) ?_)|refine xst ?_|(refine xsa ?_;intro _)|(refine xsb ?_ ?_ <;>intro _<;>try (exfalso;omega))|refine xsc ?_|fail)
 all_goals refine KJ.txShut (s:=s) (K:=K) (U:=U) (ended:=true) y hT1 hMy xP ?_
 all_goals (exact xdn ())
end
end Go.Proofs.YtgipenahkmbelaaGreatDoor
namespace Go.Proofs.YtgipenahkmbelaaGreatDoor
open Go Go.RowKit
section
variable {W:World} {r:Rows} {t:Nat}
instance fn_step1:FnIs Tryz.prog 71:=⟨by kernel_rfl⟩
theorem step1_ct (u:UE) (hl:r.length≤288230376151711744) (s:Nat) (x:TxH) (l:Nat) (hT:TbOk x.N x.a r) :
 Ct Tryz.prog W 71 [.pointer (some ⟨u.gh,0,none⟩),.pointer (some ⟨u.gt,0,none⟩),.pointer (some ⟨u.gk,0,none⟩),.pointer (some ⟨u.go,0,none⟩)] ([zAh t (txC s x l false) 86,tbP x.q x.a x.b,arP x.N]++ueP t u) (fun _:TbQ x.N (undoR r u.key u.old u.there)=>.tuple #[]) (fun y=>[zAh t (txC s x l false) 86,tbP x.q y.1.2.1 y.1.2.2,arP y.1.1]++ueP t u):=by
 obtain ⟨key,old,there,gt,gk,go,gh⟩:=u
 dsimp only
 cases there with
 |true=>
  have cp:=tput_ct (W:=W) (p:=x.q) (b:=x.b) (k:=key) (v:=old) hT hl
  refine Ct.enter Tryz.func71 rfl Tryz.ntmps71 (by simp) (fun R=>?_)
  repeat' (first|(refine zAd ?_;refine zAc xE cp xP rfl (fun y=>?_);obtain ⟨⟨N1,a1,b1⟩,g1,t1⟩:=y;dsimp only at g1 t1 ⊢)|refine xst ?_|(refine xsa ?_;intro _)|(refine xsb ?_ ?_ <;>intro _<;>try (exfalso;omega))|refine xsc ?_|(refine zAa (id:=1) plTEX0 (by kernel_rfl) (by kernel_rfl) ?_)|(refine zAa (id:=2) plTEX1 (by kernel_rfl) (by kernel_rfl) ?_)|refine zAp ?_ ?_|refine zAn rfl rfl rfl rfl rfl ?_ ?_|refine zAg ?_ ?_|exact Rech.nil|fail)
  all_goals (exact xdn ⟨(N1,a1,b1),g1,t1⟩)
 |false=>
  have cp:=tdel_ct (W:=W) (p:=x.q) (b:=x.b) (k:=key) hT hl
  refine Ct.enter Tryz.func71 rfl Tryz.ntmps71 (by simp) (fun R=>?_)
  repeat' (first|(refine zAd ?_;refine zAc xE cp xP rfl (fun y=>?_);obtain ⟨⟨N1,a1,b1⟩,g1,t1⟩:=y;dsimp only at g1 t1 ⊢)|refine xst ?_|(refine xsa ?_;intro _)|(refine xsb ?_ ?_ <;>intro _<;>try (exfalso;omega))|refine xsc ?_|(refine zAa (id:=1) plTEX0 (by kernel_rfl) (by kernel_rfl) ?_)|(refine zAa (id:=2) plTEX1 (by kernel_rfl) (by kernel_rfl) ?_)|refine zAp ?_ ?_|refine zAn rfl rfl rfl rfl rfl ?_ ?_|refine zAg ?_ ?_|exact Rech.nil|fail)
  all_goals (exact xdn ⟨(N1,a1,b1),g1,t1⟩)
end
end Go.Proofs.YtgipenahkmbelaaGreatDoor
namespace Go.Proofs.YtgipenahkmbelaaGreatDoor
open Go Go.RowKit
def visN (hi:List UInt8):Rows→Nat
 |[]=>0
 |p::r=>bif Op.bytesLess p.1 hi then visN hi r+1 else 0
theorem visN_le (hi:List UInt8):∀ r:Rows,visN hi r≤r.length
 |[]=>Nat.le_refl _
 |p::r=>by
  unfold visN
  cases Op.bytesLess p.1 hi with
  |true=>exact Nat.succ_le_succ (visN_le hi r)
  |false=>exact Nat.zero_le _
theorem visN_in (hi:List UInt8):∀ (r:Rows) (i:Nat) (p:List UInt8 × List UInt8),r[i]? = some p→i<visN hi r→Op.bytesLess p.1 hi=true
 |[],i,p,h,_=>by cases h
 |q::r,i,p,h,hn=>by
  unfold visN at hn
  cases hq:Op.bytesLess q.1 hi with
  |false=>rw [hq] at hn;cases hn
  |true=>
   rw [hq] at hn
   cases i with
   |zero=>cases h;exact hq
   |succ i=>exact visN_in hi r i p h (Nat.lt_of_succ_lt_succ hn)
theorem visN_out (hi:List UInt8):∀ (r:Rows) (p:List UInt8 × List UInt8),r[visN hi r]? = some p→Op.bytesLess p.1 hi=false
 |[],p,h=>by cases h
 |q::r,p,h=>by
  unfold visN at h
  cases hq:Op.bytesLess q.1 hi with
  |false=>rw [hq] at h;cases h;exact hq
  |true=>rw [hq] at h;exact visN_out hi r p h
theorem visN_filter {hi:List UInt8}:∀ {r:Rows},RisR r→r.filter (fun p=>Op.bytesLess p.1 hi)=r.take (visN hi r)
 |[],_=>rfl
 |p::r,h=>by
  have hr:RisR r:=(List.pairwise_cons.1 h).2
  have hp:∀ q ∈ r,Op.bytesLess p.1 q.1=true:=(List.pairwise_cons.1 h).1
  unfold visN
  cases hq:Op.bytesLess p.1 hi with
  |true=>
   rw [List.filter_cons,if_pos hq,visN_filter hr]
   rfl
  |false=>
   rw [List.filter_cons,if_neg (by rw [hq];simp)]
   exact List.filter_eq_nil_iff.2 fun q hm hq2=>by
    rw [tl_tr (hp q hm) hq2] at hq
    cases hq
end Go.Proofs.YtgipenahkmbelaaGreatDoor
namespace Go.Proofs.YtgipenahkmbelaaGreatDoor
open Go Go.RowKit
def rowAt (Rs:List Rows) (r:Rows) (j:Nat):Rows:=((Rs++[r])[j]?).getD []
theorem rowAt_get {Rs:List Rows} {r:Rows} {j:Nat} (h:j≤Rs.length):(Rs++[r])[j]? = some (rowAt Rs r j):=by
 unfold rowAt
 rw [List.getElem?_eq_getElem (by rw [List.length_append,List.length_singleton];omega)]
 rfl
theorem rowAt_end (Rs:List Rows) (r:Rows):rowAt Rs r Rs.length=r:=by
 unfold rowAt
 rw [List.getElem?_append_right (Nat.le_refl _),Nat.sub_self]
 rfl
theorem rowAt_take {Rs:List Rows} {r:Rows} {j:Nat} (h:j≤Rs.length):Rs.take j++[rowAt Rs r j]=(Rs++[r]).take (j+1):=by
 rw [List.take_add_one,rowAt_get h,List.take_append_of_le_length h]
 rfl
theorem TxKB.cut {r0:Rows} {Rs:List Rows} {r:Rows} {m j:Nat} {K:List (List UInt8 × Bool)} {U:List UE} (h:TxKB r0 Rs r m K U) (hj:j≤Rs.length):TxKB r0 (Rs.take j) (rowAt Rs r j) m K (U.take j):=by
 have hul:=h.ul
 have hum:=h.um
 have ht:=rowAt_take (r:=r) hj
 have hin:∀ x ∈ Rs.take j++[rowAt Rs r j],x ∈ Rs++[r]:=fun x hx=>by
  rw [ht] at hx
  exact List.mem_of_mem_take hx
 refine ⟨by rw [List.length_take,List.length_take,hul],by rw [List.length_take];omega,h.kl,h.nd,fun x hx=>h.ris x (hin x hx),fun x hx=>h.all x (hin x hx),fun i u x y h1 h2 h3=>?_⟩
 have hi:i<j:=by
  have:=(List.getElem?_eq_some_iff.1 h1).1
  rw [List.length_take] at this
  omega
 rw [List.getElem?_take_of_lt hi] at h1
 rw [ht,List.getElem?_take_of_lt (by omega)] at h2 h3
 exact h.undo i u x y h1 h2 h3
theorem TxKB.undoAt {r0:Rows} {Rs:List Rows} {r:Rows} {m j:Nat} {K:List (List UInt8 × Bool)} {U:List UE} {u:UE} (h:TxKB r0 Rs r m K U) (hu:U[j]? = some u):undoR (rowAt Rs r (j+1)) u.key u.old u.there=rowAt Rs r j:=by
 have hul:=h.ul
 have hj:=(List.getElem?_eq_some_iff.1 hu).1
 exact h.undo j u _ _ hu (rowAt_get (by omega)) (rowAt_get (by omega))
theorem rowAt_len {Rs:List Rows} {r:Rows} {c:Nat} (h:∀ x ∈ Rs++[r],x.length≤c) (j:Nat):(rowAt Rs r j).length≤c:=by
 unfold rowAt
 cases e:(Rs++[r])[j]? with
 |none=>exact Nat.zero_le _
 |some x=>exact h x (List.mem_of_getElem? e)
end Go.Proofs.YtgipenahkmbelaaGreatDoor
