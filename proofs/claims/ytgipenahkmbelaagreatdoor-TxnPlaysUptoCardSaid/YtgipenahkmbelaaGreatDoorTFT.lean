/-
  BtP, Rf11, Rf14.
-/
import Derived.Test.YtgipenahkmbelaaGreatDoorTCJ
import Derived.Test.YtgipenahkmbelaaGreatDoorTEQ
import Derived.Test.YtgipenahkmbelaaGreatDoorTDB
import Derived.Test.YtgipenahkmbelaaGreatDoorTEX
set_option maxHeartbeats 64000000
namespace Go.Proofs.YtgipenahkmbelaaGreatDoor
open Go Go.RowKit
theorem btw_fuel:∀ (n m:Nat) (a b:Rows),a.length+b.length≤n→a.length+b.length≤m→btw n a b=btw m a b:=by
 intro n
 induction n with
 |zero=>
  intro m a b h1 h2
  have ha:a=[]:=List.length_eq_zero_iff.1 (by omega)
  have hb:b=[]:=List.length_eq_zero_iff.1 (by omega)
  subst ha hb
  cases m <;> rfl
 |succ n ih=>
  intro m a b h1 h2
  cases m with
  |zero=>
   have ha:a=[]:=List.length_eq_zero_iff.1 (by omega)
   have hb:b=[]:=List.length_eq_zero_iff.1 (by omega)
   subst ha hb
   rfl
  |succ m=>
   match a,b with
   |[],[]=>rfl
   |p::a,[]=>rw [btw,btw,ih m a [] (by simp at h1 ⊢;omega) (by simp at h2 ⊢;omega)]
   |[],q::b=>rw [btw,btw,ih m [] b (by simp at h1 ⊢;omega) (by simp at h2 ⊢;omega)]
   |p::a,q::b=>
    simp only [List.length_cons] at h1 h2
    rw [btw,btw,ih m a (q::b) (by simp;omega) (by simp;omega),ih m (p::a) b (by simp;omega) (by simp;omega),ih m a b (by omega) (by omega)]
def btr (a b:Rows) (i j:Nat):List BOp:=btw (a.length+b.length) (a.drop i) (b.drop j)
section
variable {a b:Rows} {i j:Nat} {p q:List UInt8 × List UInt8}
theorem drop_row {l:Rows} {i:Nat} {p:List UInt8 × List UInt8} (h:l[i]? = some p):l.drop i=p::l.drop (i+1):=by
 obtain ⟨h1,h2⟩:=List.getElem?_eq_some_iff.1 h
 rw [List.drop_eq_getElem_cons h1,h2]
theorem btr_fuel {n:Nat} (h:(a.length-i)+(b.length-j)≤n):btw n (a.drop i) (b.drop j)=btr a b i j:=
 btw_fuel _ _ _ _ (by rw [List.length_drop,List.length_drop];exact h) (by rw [List.length_drop,List.length_drop];omega)
theorem btr_end (hi:a.length≤i) (hj:b.length≤j):btr a b i j=[]:=by
 unfold btr
 rw [List.drop_of_length_le hi,List.drop_of_length_le hj]
 cases a.length+b.length <;> rfl
theorem btr_a (hp:a[i]? = some p) (hj:b.length≤j):btr a b i j=⟨true,p.1,[]⟩::btr a b (i+1) j:=by
 have h1:=(List.getElem?_eq_some_iff.1 hp).1
 rw [← btr_fuel (n:=(a.length+b.length)+1) (by omega),drop_row hp,List.drop_of_length_le hj,btw,← List.drop_of_length_le hj,btr_fuel (by omega)]
theorem btr_b (hi:a.length≤i) (hq:b[j]? = some q):btr a b i j=⟨false,q.1,q.2⟩::btr a b i (j+1):=by
 have h1:=(List.getElem?_eq_some_iff.1 hq).1
 rw [← btr_fuel (n:=(a.length+b.length)+1) (by omega),drop_row hq,List.drop_of_length_le hi,btw,← List.drop_of_length_le hi,btr_fuel (by omega)]
theorem btr_lt (hp:a[i]? = some p) (hq:b[j]? = some q) (h:Op.bytesLess p.1 q.1=true):btr a b i j=⟨true,p.1,[]⟩::btr a b (i+1) j:=by
 have h1:=(List.getElem?_eq_some_iff.1 hp).1
 rw [← btr_fuel (n:=(a.length+b.length)+1) (by omega),drop_row hp,drop_row hq,btw,if_pos h,← drop_row hq,btr_fuel (by omega)]
theorem btr_gt (hp:a[i]? = some p) (hq:b[j]? = some q) (h:Op.bytesLess p.1 q.1=false) (h2:Op.bytesLess q.1 p.1=true):btr a b i j=⟨false,q.1,q.2⟩::btr a b i (j+1):=by
 have h1:=(List.getElem?_eq_some_iff.1 hq).1
 rw [← btr_fuel (n:=(a.length+b.length)+1) (by omega),drop_row hp,drop_row hq,btw,if_neg (by rw [h];decide),if_pos h2,← drop_row hp,btr_fuel (by omega)]
theorem btr_eq (hp:a[i]? = some p) (hq:b[j]? = some q) (h:Op.bytesLess p.1 q.1=false) (h2:Op.bytesLess q.1 p.1=false) (hv:p.2=q.2):btr a b i j=btr a b (i+1) (j+1):=by
 rw [← btr_fuel (n:=(a.length+b.length)+1) (by omega),drop_row hp,drop_row hq,btw,if_neg (by rw [h];decide),if_neg (by rw [h2];decide),if_pos hv,btr_fuel (by omega)]
theorem btr_ne (hp:a[i]? = some p) (hq:b[j]? = some q) (h:Op.bytesLess p.1 q.1=false) (h2:Op.bytesLess q.1 p.1=false) (hv:¬ p.2=q.2):btr a b i j=⟨false,q.1,q.2⟩::btr a b (i+1) (j+1):=by
 rw [← btr_fuel (n:=(a.length+b.length)+1) (by omega),drop_row hp,drop_row hq,btw,if_neg (by rw [h];decide),if_neg (by rw [h2];decide),if_neg hv,btr_fuel (by omega)]
end
end Go.Proofs.YtgipenahkmbelaaGreatDoor
namespace Go.Proofs.YtgipenahkmbelaaGreatDoor
open Go Go.RowKit
abbrev placeR (r:Rows) (k:List UInt8):Nat:=atB Prod.fst r k
theorem place_get {r:Rows} (h:RisR r) (k:List UInt8):(∀ p,r[placeR r k]? = some p→p.1=k→lk r k=some p.2)∧(∀ p,r[placeR r k]? = some p→p.1≠k→lk r k=none)∧(r[placeR r k]? = none→lk r k=none):=by
 have hh:=atB_has (f:=Prod.fst) h k
 have no:(∀ p,r[placeR r k]? = some p→p.1≠k)→lk r k=none:=fun hn=>by
  have:hasB Prod.fst r k=false:=by
   cases e:hasB Prod.fst r k with
   |false=>rfl
   |true=>
    obtain ⟨y,y1,y2⟩:=hh.1 e
    exact absurd y2 (hn y y1)
  rw [has_lk] at this
  cases e:lk r k with
  |none=>rfl
  |some v=>rw [e] at this;cases this
 refine ⟨fun p hp e=>?_,fun p hp e=>no fun q hq=>by rw [hp] at hq;cases hq;exact e,fun hp=>no fun q hq=>by rw [hp] at hq;cases hq⟩
 rw [← e]
 exact lk_of h.nodup (List.mem_of_getElem? hp)
theorem place_put {r:Rows} (h:RisR r) (k v:List UInt8):putR r k v=(mdel r k).take (placeR (mdel r k) k)++[(k,v)]++(mdel r k).drop (placeR (mdel r k) k):=by
 have e:putR r k v=insB Prod.fst (mdel r k) (k,v):=by
  have hn:lk (mdel r k) k=none:=by rw [lk_del,if_pos rfl]
  have h2:putR (mdel r k) k v=insB Prod.fst (mdel r k) (k,v):=by
   unfold putR
   rw [if_neg (by rw [has_lk,hn];simp)]
  rw [← h2]
  refine rows_ext (putR_ris h k v) (putR_ris (mdel_ris h k) k v) fun y=>?_
  rw [lk_putR h,lk_putR (mdel_ris h k),lk_del]
  by_cases e:y=k
  ·rw [if_pos e,if_pos e]
  ·rw [if_neg e,if_neg e,if_neg e]
 rw [e,insB_eq]
theorem del_next {r:Rows} {i:Nat} {p:List UInt8 × List UInt8} (h:r[i]? = some p) (k:List UInt8):mdel (r.take (i+1)) k=if p.1=k then mdel (r.take i) k else mdel (r.take i) k++[p]:=by
 rw [List.take_add_one,h]
 unfold mdel
 rw [List.filter_append]
 by_cases e:p.1=k <;> simp [e]
theorem place_go {r:Rows} (h:RisR r) {i:Nat} {p:List UInt8 × List UInt8} (hp:r[i]? = some p) (k:List UInt8) (hi:i≤placeR r k):(Op.bytesLess p.1 k=true→i+1≤placeR r k)∧(Op.bytesLess p.1 k=false→placeR r k=i):=by
 have hh:=atB_iff (f:=Prod.fst) h k i p hp
 refine ⟨fun e=>hh.1 e,fun e=>?_⟩
 rcases Nat.lt_or_ge i (placeR r k) with h1|h1
 ·rw [hh.2 h1] at e;cases e
 ·exact Nat.le_antisymm h1 hi
theorem place_end {r:Rows} (k:List UInt8) (h:r.length≤placeR r k):placeR r k=r.length:=Nat.le_antisymm (atB_le r k) h
theorem seen_next {b:Rows} {S:List BOp} {i:Nat} {o:BOp} (h:S[i]? = some o):zAf b (S.take (i+1))=apply1 (zAf b (S.take i)) o:=by
 unfold zAf
 rw [List.take_add_one,h,List.foldl_append]
 rfl
end Go.Proofs.YtgipenahkmbelaaGreatDoor
namespace Go.Proofs.YtgipenahkmbelaaGreatDoor
open Go Go.RowKit
theorem vuF_fuel:∀ (f g x:Nat),x<128 ^ f→x<128 ^ g→1≤f→1≤g→vuF f x=vuF g x:=by
 intro f
 induction f with
 |zero=>intro g x _ _ h;omega
 |succ f ih=>
  intro g x h1 h2 _ hg
  obtain ⟨g,rfl⟩:∃ k,g=k+1:=⟨g-1,by omega⟩
  rw [vuF,vuF]
  by_cases hx:x<128
  ·rw [if_pos hx,if_pos hx]
  ·rw [if_neg hx,if_neg hx]
   have d1:x / 128<128 ^ f:=Nat.div_lt_of_lt_mul (by rw [Nat.pow_succ,Nat.mul_comm] at h1;exact h1)
   have d2:x / 128<128 ^ g:=Nat.div_lt_of_lt_mul (by rw [Nat.pow_succ,Nat.mul_comm] at h2;exact h2)
   have f1:1≤f:=by
    rcases Nat.eq_zero_or_pos f with h|h
    ·subst h;simp at h1;omega
    ·exact h
   have g1:1≤g:=by
    rcases Nat.eq_zero_or_pos g with h|h
    ·subst h;simp at h2;omega
    ·exact h
   rw [ih g (x / 128) d1 d2 f1 g1]
theorem vu_step {x:Nat} (h:128≤x) (hx:x<9223372036854775808):(vu x).length=(vu (x / 128)).length+1:=by
 show (vuF 10 x).length=(vuF 10 (x / 128)).length+1
 rw [vuF_big (by omega),List.length_cons,vuF_fuel 9 10 (x / 128) (by omega) (by omega) (by omega) (by omega)]
theorem vu_last {x:Nat} (h:x<128):(vu x).length=1:=by
 show (vuF 10 x).length=1
 rw [vuF_small h]
 rfl
theorem snap_next {r:Rows} {i:Nat} {p:List UInt8 × List UInt8} (h:r[i]? = some p):sumW rowZ (r.take (i+1))=sumW rowZ (r.take i)+(((vu p.1.length).length+p.1.length)+((vu p.2.length).length+p.2.length)):=by
 rw [List.take_add_one,h,sumW_append]
 show _+sumW rowZ [p]=_
 rw [sumW_cons]
 have e0:sumW rowZ ([]:Rows)=0:=rfl
 have e1:rowZ p=((vu p.1.length).length+p.1.length)+((vu p.2.length).length+p.2.length):=by
  unfold rowZ rowB tx
  simp only [List.length_append]
 rw [e0,e1,Nat.add_zero]
theorem enc_next {l:List BOp} {i:Nat} {o:BOp} (h:l[i]? = some o):sumW opW (l.take (i+1))=sumW opW (l.take i)+(1+((vu o.key.length).length+o.key.length)+(if o.del=true then 0 else (vu o.val.length).length+o.val.length)):=by
 rw [List.take_add_one,h,sumW_append]
 show _+sumW opW [o]=_
 rw [sumW_cons]
 have e0:sumW opW ([]:List BOp)=0:=rfl
 have e1:opW o=1+((vu o.key.length).length+o.key.length)+(if o.del=true then 0 else (vu o.val.length).length+o.val.length):=by
  unfold opW encOp tx
  cases o.del <;> simp [List.length_append] <;> omega
 rw [e0,e1,Nat.add_zero]
theorem room400:234*layA 400=30888:=by decide
theorem large400:largestI (logN 400:Nat)=31218:=by
 have:logN 400=134:=by decide
 rw [largest_val (by omega) (by omega),this]
 decide
theorem comm14 {r0 r:Rows} (h0:RisR r0) (h:RisR r):commE 400 r0 (zAs r0 r)=(if zAs r0 r=[] then 0 else if 31218<(encAll (zAs r0 r)).length then 18 else if 30888<(zBd r).length then 17 else 0)∧commR 400 r0 (zAs r0 r)=if commE 400 r0 (zAs r0 r)=0 then r else r0:=by
 have hnb:zBy (zAs r0 r)=zAs r0 r:=by rw [← between_prog h0 h,normD_idem]
 have hap:zAf r0 (zAs r0 r)=r:=between_apply h0 h
 have e:commE 400 r0 (zAs r0 r)=(if zAs r0 r=[] then 0 else if 31218<(encAll (zAs r0 r)).length then 18 else if 30888<(zBd r).length then 17 else 0):=by
  unfold commE
  rw [hnb,hap,large400,room400]
  have q:((31218:Int)<(((encAll (zAs r0 r)).length:Nat):Int))↔31218<(encAll (zAs r0 r)).length:=by omega
  simp only [q]
 refine ⟨e,?_⟩
 unfold commR
 rw [hnb,hap]
end Go.Proofs.YtgipenahkmbelaaGreatDoor
