/-
  Tord, WrP, BaP, BaQ.
-/
import Derived.Test.YtgipenahkmbelaaGreatDoorTCL
set_option maxHeartbeats 64000000
namespace Go.Proofs.YtgipenahkmbelaaGreatDoor
open Go Go.RowKit
theorem tl_irr (a:List UInt8):Op.bytesLess a a=false:=by
 induction a with
 |nil=>rfl
 |cons x a ih=>simp [Op.bytesLess,ih]
theorem tl_tr:∀ {a b c:List UInt8},Op.bytesLess a b=true→Op.bytesLess b c=true→Op.bytesLess a c=true:=by
 intro a
 induction a with
 |nil=>
  intro b c h1 h2
  cases c with
  |nil=>cases b <;> simp [Op.bytesLess] at h2
  |cons z c=>rfl
 |cons x a ih=>
  intro b c h1 h2
  cases b with
  |nil=>simp [Op.bytesLess] at h1
  |cons y b=>
   cases c with
   |nil=>simp [Op.bytesLess] at h2
   |cons z c=>
    simp only [Op.bytesLess,Bool.or_eq_true,decide_eq_true_eq,Bool.and_eq_true,beq_iff_eq] at h1 h2 ⊢
    rcases h1 with h1|⟨rfl,h1⟩
    ·rcases h2 with h2|⟨rfl,h2⟩
     ·exact .inl (UInt8.lt_trans h1 h2)
     ·exact .inl h1
    ·rcases h2 with h2|⟨rfl,h2⟩
     ·exact .inl h2
     ·exact .inr ⟨rfl,ih h1 h2⟩
theorem tl_tot:∀ (a b:List UInt8),a≠b→Op.bytesLess a b=true∨Op.bytesLess b a=true:=by
 intro a
 induction a with
 |nil=>intro b h;cases b with
  |nil=>exact absurd rfl h
  |cons y b=>exact .inl rfl
 |cons x a ih=>
  intro b h
  cases b with
  |nil=>exact .inr rfl
  |cons y b=>
   simp only [Op.bytesLess,Bool.or_eq_true,decide_eq_true_eq,Bool.and_eq_true,beq_iff_eq]
   by_cases e:x=y
   ·subst e
    rcases ih b (fun q=>h (by rw [q])) with q|q
    ·exact .inl (.inr ⟨rfl,q⟩)
    ·exact .inr (.inr ⟨rfl,q⟩)
   ·rcases UInt8.lt_or_lt_of_ne e with q|q
    ·exact .inl (.inl q)
    ·exact .inr (.inl q)
theorem tl_asym {a b:List UInt8} (h:Op.bytesLess a b=true):Op.bytesLess b a=false:=by
 cases q:Op.bytesLess b a with
 |false=>rfl
 |true=>have:=tl_tr h q;rw [tl_irr] at this;cases this
theorem tl_not {a b:List UInt8} (h:Op.bytesLess a b=false) (hne:a≠b):Op.bytesLess b a=true:=by
 rcases tl_tot a b hne with q|q
 ·rw [q] at h;cases h
 ·exact q
def Rising {γ:Type} (f:γ→List UInt8) (l:List γ):Prop:=l.Pairwise fun x y=>Op.bytesLess (f x) (f y)=true
theorem rising_eq {γ:Type} {f:γ→List UInt8}:∀ {l r:List γ},Rising f l→Rising f r→(∀ x,x ∈ l↔x ∈ r)→l=r
 |[],r,_,_,h=>by
  cases r with
  |nil=>rfl
  |cons y r=>exact absurd ((h y).2 (List.mem_cons_self ..)) (by simp)
 |x::l,r,hl,hr,h=>by
  cases r with
  |nil=>exact absurd ((h x).1 (List.mem_cons_self ..)) (by simp)
  |cons y r=>
   obtain ⟨l1,l2⟩:=List.pairwise_cons.1 hl
   obtain ⟨r1,r2⟩:=List.pairwise_cons.1 hr
   have hxy:x=y:=by
    rcases List.mem_cons.1 ((h x).1 (List.mem_cons_self ..)) with e|e
    ·exact e
    ·rcases List.mem_cons.1 ((h y).2 (List.mem_cons_self ..)) with e'|e'
     ·exact e'.symm
     ·have:=tl_tr (r1 x e) (l1 y e');rw [tl_irr] at this;cases this
   subst hxy
   rw [rising_eq l2 r2 (fun z=>?_)]
   constructor
   ·intro hz
    rcases List.mem_cons.1 ((h z).1 (List.mem_cons_of_mem _ hz)) with e|e
    ·subst e;have:=l1 z hz;rw [tl_irr] at this;cases this
    ·exact e
   ·intro hz
    rcases List.mem_cons.1 ((h z).2 (List.mem_cons_of_mem _ hz)) with e|e
    ·subst e;have:=r1 z hz;rw [tl_irr] at this;cases this
    ·exact e
end Go.Proofs.YtgipenahkmbelaaGreatDoor
namespace Go.Proofs.YtgipenahkmbelaaGreatDoor
open Go Go.RowKit
def vuF:Nat→Nat→List UInt8
 |0,_=>[]
 |f+1,x=>if x<128 then [UInt8.ofNat x] else UInt8.ofNat (x % 128+128)::vuF f (x / 128)
def vu (x:Nat):List UInt8:=vuF 10 x
inductive Rd (α:Type) where
 |bad (e:Nat)
 |ok (x:α) (t:List UInt8)
def ruG:List UInt8→Nat→Nat→Rd Nat
 |[],_,_=>.bad 1
 |b::t,i,acc=>if i=9∧1<b.toNat then .bad 2 else if b.toNat<128 then (if b.toNat=0∧0<i then .bad 2 else .ok (acc+b.toNat*2 ^ (7*i)) t) else ruG t (i+1) (acc+b.toNat % 128*2 ^ (7*i))
def ru (l:List UInt8):Rd Nat:=ruG l 0 0
def rtx (most:Nat) (l:List UInt8):Rd (List UInt8):=match ru l with
 |.bad e=>.bad e
 |.ok n t=>if most<n then .bad 3 else if t.length<n then .bad 1 else .ok (t.take n) (t.drop n)
def tx (s:List UInt8):List UInt8:=vu s.length++s
theorem vuF_le:∀ (f x:Nat),(vuF f x).length≤f
 |0,_=>Nat.le_refl _
 |f+1,x=>by
  unfold vuF
  split
  ·simp
  ·have:=vuF_le f (x / 128);simp;omega
theorem vuF_pos (f x:Nat):1≤(vuF (f+1) x).length:=by
 unfold vuF
 split <;> simp
theorem ruG_vuF:∀ (f i x acc:Nat) (t:List UInt8),x<2 ^ (64-7*i)→(0<i→0<x)→f+i=10→1≤f→ruG (vuF f x++t) i acc=.ok (acc+x*2 ^ (7*i)) t:=by
 intro f
 induction f with
 |zero=>intro i x acc t _ _ _ h;omega
 |succ f ih=>
  intro i x acc t hx h0 hf _
  by_cases h:x<128
  ·have e:(UInt8.ofNat x).toNat=x:=by rw [UInt8.toNat_ofNat'];omega
   have h9:¬ (i=9∧1<x):=by
    rintro ⟨rfl,h1⟩
    have:x<2 ^ 1:=hx
    omega
   unfold vuF
   rw [if_pos h]
   show (if i=9∧1<(UInt8.ofNat x).toNat then _ else _)=_
   rw [e,if_neg h9,if_pos h,if_neg (by omega)]
   rfl
  ·have e:(UInt8.ofNat (x % 128+128)).toNat=x % 128+128:=by rw [UInt8.toNat_ofNat'];omega
   have hi:i<9:=by
    apply Decidable.byContradiction
    intro hh
    have hi9:i=9:=by omega
    subst hi9
    have:x<2 ^ 1:=hx
    omega
   unfold vuF
   rw [if_neg h]
   show (if i=9∧1<(UInt8.ofNat (x % 128+128)).toNat then _ else _)=_
   rw [e,if_neg (by omega),if_neg (by omega)]
   have hx2:x / 128<2 ^ (64-7*(i+1)):=by
    have e2:64-7*i=(64-7*(i+1))+7:=by omega
    rw [e2,Nat.pow_add] at hx
    exact Nat.div_lt_of_lt_mul (by rw [Nat.mul_comm];exact hx)
   have:=ih (i+1) (x / 128) (acc+(x % 128+128) % 128*2 ^ (7*i)) t hx2 (fun _=>by omega) (by omega) (by omega)
   rw [show vuF f (x / 128)++t=vuF f (x / 128)++t from rfl] at this
   refine this.trans ?_
   congr 1
   have e3:2 ^ (7*(i+1))=128*2 ^ (7*i):=by rw [show 7*(i+1)=7+7*i by omega,Nat.pow_add]
   rw [e3]
   have e4:(x % 128+128) % 128=x % 128:=by omega
   rw [e4,Nat.add_assoc,← Nat.mul_assoc,← Nat.add_mul]
   congr 2
   omega
theorem ru_vu (x:Nat) (hx:x<2 ^ 64) (t:List UInt8):ru (vu x++t)=.ok x t:=by
 have:=ruG_vuF 10 0 x 0 t hx (fun h=>by omega) rfl (by omega)
 show ruG (vuF 10 x++t) 0 0=_
 simpa using this
theorem vuF_ruG:∀ (f:Nat) (l:List UInt8) (i acc x:Nat) (t:List UInt8),ruG l i acc=.ok x t→f+i=10→1≤f→∃ y,x=acc+y*2 ^ (7*i)∧l=vuF f y++t∧y<2 ^ (64-7*i)∧(0<i→0<y):=by
 intro f
 induction f with
 |zero=>intro l i acc x t _ _ h;omega
 |succ f ih=>
  intro l i acc x t h hf _
  cases l with
  |nil=>cases h
  |cons b l=>
   have hb:=UInt8.toNat_lt b
   have hu:ruG (b::l) i acc=if i=9∧1<b.toNat then .bad 2 else if b.toNat<128 then (if b.toNat=0∧0<i then .bad 2 else .ok (acc+b.toNat*2 ^ (7*i)) l) else ruG l (i+1) (acc+b.toNat % 128*2 ^ (7*i)):=rfl
   rw [hu] at h
   split at h
   ·cases h
   rename_i h9
   split at h
   ·rename_i h1
    split at h
    ·cases h
    rename_i h2
    cases h
    refine ⟨b.toNat,rfl,?_,?_,fun h0=>by omega⟩
    ·unfold vuF
     rw [if_pos h1,UInt8.ofNat_toNat];rfl
    ·by_cases hi:i=9
     ·subst hi
      show b.toNat<2 ^ 1
      omega
     ·have:2 ^ 7≤2 ^ (64-7*i):=Nat.pow_le_pow_right (by omega) (by omega)
      omega
   ·rename_i h1
    have hi:i<9:=by omega
    obtain ⟨y,y1,y2,y3,y4⟩:=ih l (i+1) _ x t h (by omega) (by omega)
    have e3:2 ^ (7*(i+1))=128*2 ^ (7*i):=by rw [show 7*(i+1)=7+7*i by omega,Nat.pow_add]
    refine ⟨y*128+b.toNat % 128,?_,?_,?_,fun _=>by have:=y4 (by omega);omega⟩
    ·rw [y1,e3,Nat.add_assoc,← Nat.mul_assoc,← Nat.add_mul]
     congr 2
     omega
    ·have h128:¬ y*128+b.toNat % 128<128:=by have:=y4 (by omega);omega
     unfold vuF
     rw [if_neg h128]
     have e1:(y*128+b.toNat % 128) % 128+128=b.toNat:=by omega
     have e2:(y*128+b.toNat % 128) / 128=y:=by omega
     rw [e1,e2,UInt8.ofNat_toNat,y2];rfl
    ·have e2:64-7*i=(64-7*(i+1))+7:=by omega
     rw [e2,Nat.pow_add]
     omega
theorem vu_ru {l t:List UInt8} {x:Nat} (h:ru l=.ok x t):l=vu x++t∧x<2 ^ 64:=by
 obtain ⟨y,y1,y2,y3,-⟩:=vuF_ruG 10 l 0 0 x t h rfl (by omega)
 have:x=y:=by simpa using y1
 subst this
 exact ⟨y2,y3⟩
theorem rtx_tx (most:Nat) (s t:List UInt8) (h:s.length≤most) (hl:s.length<2 ^ 64):rtx most (tx s++t)=.ok s t:=by
 unfold rtx tx
 rw [List.append_assoc,ru_vu _ hl]
 dsimp only
 rw [if_neg (by omega),if_neg (by rw [List.length_append];omega),List.take_left' rfl,List.drop_left' rfl]
end Go.Proofs.YtgipenahkmbelaaGreatDoor
namespace Go.Proofs.YtgipenahkmbelaaGreatDoor
open Go Go.RowKit
section
variable {γ:Type} (f:γ→List UInt8)
def insB:List γ→γ→List γ
 |[],x=>[x]
 |y::r,x=>if Op.bytesLess (f y) (f x)=true then y::insB r x else x::y::r
def atB:List γ→List UInt8→Nat
 |[],_=>0
 |y::r,k=>if Op.bytesLess (f y) k=true then atB r k+1 else 0
def hasB (l:List γ) (k:List UInt8):Bool:=l.any fun x=>decide (f x=k)
variable {f}
theorem hasB_true {l:List γ} {k:List UInt8}:hasB f l k=true↔∃ x ∈ l,f x=k:=by simp [hasB]
theorem hasB_false {l:List γ} {k:List UInt8}:hasB f l k=false↔∀ x ∈ l,f x≠k:=by simp [hasB]
theorem atB_le (l:List γ) (k:List UInt8):atB f l k≤l.length:=by
 induction l with
 |nil=>exact Nat.le_refl _
 |cons y r ih=>unfold atB;split <;> simp [ih]
theorem insB_eq (l:List γ) (x:γ):insB f l x=l.take (atB f l (f x))++[x]++l.drop (atB f l (f x)):=by
 induction l with
 |nil=>rfl
 |cons y r ih=>
  unfold insB atB
  split
  ·rw [ih];rfl
  ·rfl
theorem mem_insB {l:List γ} {x y:γ}:y ∈ insB f l x↔y=x∨y ∈ l:=by
 induction l with
 |nil=>simp [insB]
 |cons z r ih=>
  unfold insB
  split
  ·rw [List.mem_cons,ih,List.mem_cons]
   constructor
   ·rintro (h|h|h)
    ·exact .inr (.inl h)
    ·exact .inl h
    ·exact .inr (.inr h)
   ·rintro (h|h|h)
    ·exact .inr (.inl h)
    ·exact .inl h
    ·exact .inr (.inr h)
  ·rw [List.mem_cons]
theorem insB_rising {l:List γ} {x:γ} (h:Rising f l) (hx:∀ y ∈ l,f y≠f x):Rising f (insB f l x):=by
 induction l with
 |nil=>exact List.pairwise_cons.2 ⟨fun _ h=>absurd h (by simp),List.Pairwise.nil⟩
 |cons z r ih=>
  obtain ⟨h1,h2⟩:=List.pairwise_cons.1 h
  unfold insB
  split
  ·rename_i hz
   refine List.pairwise_cons.2 ⟨fun y hy=>?_,ih h2 fun w hw=>hx w (List.mem_cons_of_mem _ hw)⟩
   rcases mem_insB.1 hy with hy|hy
   ·rw [hy];exact hz
   ·exact h1 y hy
  ·rename_i hz
   have hxz:Op.bytesLess (f x) (f z)=true:=tl_not (by simpa using hz) (hx z (List.mem_cons_self ..))
   refine List.pairwise_cons.2 ⟨fun y hy=>?_,h⟩
   rcases List.mem_cons.1 hy with hy|hy
   ·rw [hy];exact hxz
   ·exact tl_tr hxz (h1 y hy)
theorem atB_iff {l:List γ} (h:Rising f l) (k:List UInt8):∀ (i:Nat) (y:γ),l[i]? = some y→(Op.bytesLess (f y) k=true↔i<atB f l k):=by
 induction l with
 |nil=>intro i y hy;simp at hy
 |cons z r ih=>
  obtain ⟨h1,h2⟩:=List.pairwise_cons.1 h
  intro i y hy
  unfold atB
  by_cases hz:Op.bytesLess (f z) k=true
  ·rw [if_pos hz]
   cases i with
   |zero=>cases hy;simp [hz]
   |succ i=>rw [ih h2 i y hy];omega
  ·rw [if_neg hz]
   refine ⟨fun q=>?_,fun q=>absurd q (Nat.not_lt_zero _)⟩
   cases i with
   |zero=>cases hy;exact absurd q hz
   |succ i=>
    have:=h1 y (List.mem_of_getElem? hy)
    exact absurd (tl_tr this q) hz
theorem atB_has {l:List γ} (h:Rising f l) (k:List UInt8):hasB f l k=true↔∃ y,l[atB f l k]? = some y∧f y=k:=by
 rw [hasB_true]
 constructor
 ·rintro ⟨x,hx,rfl⟩
  obtain ⟨i,hi⟩:=List.mem_iff_getElem?.1 hx
  have q:=atB_iff h (f x) i x hi
  rw [tl_irr] at q
  have hge:atB f l (f x)≤i:=by
   by_cases c:i<atB f l (f x)
   ·exact absurd (q.2 c) (by decide)
   ·omega
  by_cases c:atB f l (f x)=i
  ·rw [c];exact ⟨x,hi,rfl⟩
  ·have hil:i<l.length:=(List.getElem?_eq_some_iff.1 hi).1
   have hlt:atB f l (f x)<l.length:=by omega
   have hb:=List.getElem?_eq_getElem hlt
   have q2:=atB_iff h (f x) _ _ hb
   have hno:Op.bytesLess (f l[atB f l (f x)]) (f x)=false:=by
    cases e:Op.bytesLess (f l[atB f l (f x)]) (f x) with
    |false=>rfl
    |true=>exact absurd (q2.1 e) (Nat.lt_irrefl _)
   have hp:=(List.pairwise_iff_getElem.1 h) (atB f l (f x)) i hlt hil (by omega)
   rw [(List.getElem?_eq_some_iff.1 hi).2] at hp
   rw [hp] at hno;cases hno
 ·rintro ⟨y,hy,e⟩
  exact ⟨y,List.mem_of_getElem? hy,e⟩
theorem rising_uniq {l:List γ} (h:Rising f l) {x y:γ} (hx:x ∈ l) (hy:y ∈ l) (e:f x=f y):x=y:=by
 induction l with
 |nil=>simp at hx
 |cons z r ih=>
  obtain ⟨h1,h2⟩:=List.pairwise_cons.1 h
  rcases List.mem_cons.1 hx with a|a
  ·rcases List.mem_cons.1 hy with b|b
   ·rw [a,b]
   ·have:=h1 y b;rw [← a,e,tl_irr] at this;cases this
  ·rcases List.mem_cons.1 hy with b|b
   ·have:=h1 x a;rw [← b,e,tl_irr] at this;cases this
   ·exact ih h2 a b
theorem rising_len {l r:List γ} (hl:Rising f l) (hr:Rising f r) (h:∀ x ∈ l,x ∈ r):l.length≤r.length:=by
 induction r generalizing l with
 |nil=>cases l with
  |nil=>exact Nat.le_refl _
  |cons x l=>exact absurd (h x (List.mem_cons_self ..)) (by simp)
 |cons y r ih=>
  cases l with
  |nil=>exact Nat.zero_le _
  |cons x l=>
   obtain ⟨l1,l2⟩:=List.pairwise_cons.1 hl
   obtain ⟨r1,r2⟩:=List.pairwise_cons.1 hr
   have:∀ z ∈ l,z ∈ r:=fun z hz=>by
    rcases List.mem_cons.1 (h z (List.mem_cons_of_mem _ hz)) with e|e
    ·rcases List.mem_cons.1 (h x (List.mem_cons_self ..)) with e'|e'
     ·have:=l1 z hz;rw [e,e',tl_irr] at this;cases this
     ·have a:=r1 x e'
      have b:=l1 z hz
      rw [e] at b
      have:=tl_tr a b;rw [tl_irr] at this;cases this
    ·exact e
   have:=ih l2 r2 this
   simp only [List.length_cons];omega
end
structure BOp where
 del:Bool
 key:List UInt8
 val:List UInt8
deriving DecidableEq
def BOp.nrm (o:BOp):BOp:=⟨o.del,o.key,if o.del then [] else o.val⟩
theorem nrm_nrm (o:BOp):o.nrm.nrm=o.nrm:=by
 obtain ⟨d,k,v⟩:=o
 cases d <;> rfl
def zBx:List BOp→List UInt8→Option BOp
 |[],_=>none
 |o::r,k=>(zBx r k).or (if o.key=k then some o.nrm else none)
theorem lastOf_append (a b:List BOp) (k:List UInt8):zBx (a++b) k=(zBx b k).or (zBx a k):=by
 induction a with
 |nil=>simp [zBx]
 |cons o a ih=>rw [List.cons_append,zBx,ih,zBx,Option.or_assoc]
theorem lastOf_one (a:List BOp) (o:BOp) (k:List UInt8):zBx (a++[o]) k=if o.key=k then some o.nrm else zBx a k:=by
 rw [lastOf_append]
 by_cases e:o.key=k <;> simp [zBx,e]
theorem lastOf_some {l:List BOp} {k:List UInt8} {x:BOp} (h:zBx l k=some x):x.key=k∧x.nrm=x:=by
 induction l with
 |nil=>cases h
 |cons o r ih=>
  rw [zBx] at h
  cases e:zBx r k with
  |some y=>rw [e] at h;cases h;exact ih e
  |none=>
   rw [e,Option.none_or] at h
   split at h
   ·rename_i ek;cases h;exact ⟨ek,nrm_nrm o⟩
   ·cases h
def zBy:List BOp→List BOp
 |[]=>[]
 |o::r=>if hasB BOp.key (zBy r) o.key=true then zBy r else insB BOp.key (zBy r) o.nrm
theorem normD_spec (l:List BOp):Rising BOp.key (zBy l)∧∀ x,x ∈ zBy l↔zBx l x.key=some x:=by
 induction l with
 |nil=>exact ⟨List.Pairwise.nil,fun x=>by simp [zBy,zBx]⟩
 |cons o r ih=>
  obtain ⟨h1,h2⟩:=ih
  unfold zBy
  split
  ·rename_i hh
   refine ⟨h1,fun x=>?_⟩
   rw [h2,zBx]
   obtain ⟨y,hy,ey⟩:=hasB_true.1 hh
   rw [h2] at hy
   cases e:zBx r x.key with
   |some z=>rfl
   |none=>
    by_cases c:o.key=x.key
    ·rw [← c,← ey,hy] at e;cases e
    ·simp [c]
  ·rename_i hh
   have hf:=hasB_false.1 (by simpa using hh)
   have hn:zBx r o.key=none:=by
    cases e:zBx r o.key with
    |none=>rfl
    |some z=>
     have hz:=(lastOf_some e).1
     have:=(h2 z).2 (by rw [hz];exact e)
     exact absurd hz (hf z this)
   refine ⟨insB_rising h1 fun y hy=>hf y hy,fun x=>?_⟩
   rw [mem_insB,h2,zBx]
   by_cases c:o.key=x.key
   ·rw [← c,hn,if_pos rfl]
    simp [eq_comm]
   ·rw [if_neg c,Option.or_none]
    constructor
    ·rintro (h|h)
     ·exact absurd (by rw [h];rfl) c
     ·exact h
    ·exact .inr
theorem normD_rising (l:List BOp):Rising BOp.key (zBy l):=(normD_spec l).1
theorem normD_mem (l:List BOp) (x:BOp):x ∈ zBy l↔zBx l x.key=some x:=(normD_spec l).2 x
theorem normD_nrm {l:List BOp} {x:BOp} (h:x ∈ zBy l):x.nrm=x:=(lastOf_some ((normD_mem l x).1 h)).2
theorem normD_of {l r:List BOp} (hr:Rising BOp.key r) (h:∀ x,x ∈ r↔zBx l x.key=some x):r=zBy l:=rising_eq hr (normD_rising l) fun x=>(h x).trans (normD_mem l x).symm
theorem normD_congr {l r:List BOp} (h:∀ k,zBx l k=zBx r k):zBy l=zBy r:=normD_of (normD_rising l) fun x=>by rw [normD_mem,h]
theorem lastOf_rising {l:List BOp} (hl:Rising BOp.key l) (hn:∀ x ∈ l,x.nrm=x) (k:List UInt8):∀ x,zBx l k=some x↔x ∈ l∧x.key=k:=by
 induction l with
 |nil=>intro x;simp [zBx]
 |cons o r ih=>
  obtain ⟨h1,h2⟩:=List.pairwise_cons.1 hl
  have ih:=fun x=>ih h2 (fun y hy=>hn y (List.mem_cons_of_mem _ hy)) x
  intro x
  rw [zBx]
  by_cases e:o.key=k
  ·have:zBx r k=none:=by
    cases q:zBx r k with
    |none=>rfl
    |some z=>
     have hz:=(lastOf_some q).1
     have hm:z ∈ r:=((ih z).1 q).1
     have:=h1 z hm
     rw [e,hz,tl_irr] at this;cases this
   rw [this,if_pos e,Option.none_or,hn o (List.mem_cons_self ..)]
   constructor
   ·intro h;cases h;exact ⟨List.mem_cons_self ..,e⟩
   ·rintro ⟨h,hk⟩
    rw [rising_uniq hl h (List.mem_cons_self ..) (hk.trans e.symm)]
  ·rw [if_neg e,Option.or_none,ih,List.mem_cons]
   constructor
   ·rintro ⟨a,b⟩;exact ⟨.inr a,b⟩
   ·rintro ⟨a|a,b⟩
    ·rw [a] at b;exact absurd b e
    ·exact ⟨a,b⟩
end Go.Proofs.YtgipenahkmbelaaGreatDoor
namespace Go.Proofs.YtgipenahkmbelaaGreatDoor
open Go Go.RowKit
abbrev Rows:=List (List UInt8 × List UInt8)
def RisR (r:Rows):Prop:=Rising Prod.fst r
theorem RisR.nodup {r:Rows} (h:RisR r):(r.map (·.1)).Nodup:=List.pairwise_map.2 (h.imp fun {a b} q e=>by rw [e,tl_irr] at q;cases q)
theorem rows_mem {r:Rows} (h:RisR r) (k v:List UInt8):(k,v) ∈ r↔lk r k=some v:=⟨fun q=>lk_of h.nodup q,lk_mem⟩
theorem rows_ext {a b:Rows} (ha:RisR a) (hb:RisR b) (h:∀ k,lk a k=lk b k):a=b:=rising_eq ha hb fun ⟨k,v⟩=>by rw [rows_mem ha,rows_mem hb,h]
def putR (r:Rows) (k v:List UInt8):Rows:=if hasB Prod.fst r k=true then r.map (fun p=>if p.1=k then (k,v) else p) else insB Prod.fst r (k,v)
def apply1 (r:Rows) (o:BOp):Rows:=if o.del then mdel r o.key else putR r o.key o.val
def zAf (r:Rows) (ops:List BOp):Rows:=ops.foldl apply1 r
theorem has_lk {r:Rows} {k:List UInt8}:hasB Prod.fst r k=(lk r k).isSome:=by
 cases e:lk r k with
 |none=>exact hasB_false.2 (lk_none.1 e)
 |some v=>exact hasB_true.2 ⟨(k,v),lk_mem e,rfl⟩
theorem putR_ris {r:Rows} (h:RisR r) (k v:List UInt8):RisR (putR r k v):=by
 unfold putR
 split
 ·unfold RisR Rising
  rw [List.pairwise_map]
  refine h.imp fun {a b} q=>?_
  have e:∀ p:List UInt8 × List UInt8,(if p.1=k then (k,v) else p).1=p.1:=fun p=>by
   split
   ·rename_i e;exact e.symm
   ·rfl
  rw [e,e];exact q
 ·rename_i hh
  exact insB_rising h fun y hy=>hasB_false.1 (by simpa using hh) y hy
theorem mdel_ris {r:Rows} (h:RisR r) (k:List UInt8):RisR (mdel r k):=List.Pairwise.sublist List.filter_sublist h
theorem apply1_ris {r:Rows} (h:RisR r) (o:BOp):RisR (apply1 r o):=by
 unfold apply1
 split
 ·exact mdel_ris h _
 ·exact putR_ris h _ _
theorem applyB_ris {r:Rows} (h:RisR r) (ops:List BOp):RisR (zAf r ops):=by
 induction ops generalizing r with
 |nil=>exact h
 |cons o ops ih=>exact ih (apply1_ris h o)
theorem lk_putR {r:Rows} (h:RisR r) (k v b:List UInt8):lk (putR r k v) b=if b=k then some v else lk r b:=by
 have hp:=putR_ris h k v
 have hm:∀ u,lk (putR r k v) b=some u↔(if b=k then some v else lk r b)=some u:=fun u=>by
  rw [← rows_mem hp]
  unfold putR
  split
  ·rename_i hh
   rw [List.mem_map]
   obtain ⟨p,hpm,hpk⟩:=hasB_true.1 hh
   constructor
   ·rintro ⟨q,hq,e⟩
    split at e
    ·cases e;rw [if_pos rfl]
    ·rename_i hne
     subst e
     rw [if_neg hne]
     exact (rows_mem h _ _).1 hq
   ·intro e
    split at e
    ·rename_i hb
     cases e
     exact ⟨p,hpm,by rw [if_pos hpk,hb]⟩
    ·rename_i hb
     exact ⟨(b,u),(rows_mem h _ _).2 e,by rw [if_neg hb]⟩
  ·rename_i hh
   rw [mem_insB,rows_mem h]
   have hn:lk r k=none:=by
    have:hasB Prod.fst r k=false:=by simpa using hh
    rw [has_lk] at this
    cases e:lk r k with
    |none=>rfl
    |some _=>rw [e] at this;cases this
   by_cases hb:b=k
   ·subst hb
    rw [if_pos rfl,hn]
    simp [eq_comm]
   ·rw [if_neg hb]
    simp [hb]
 cases e:lk (putR r k v) b with
 |some u=>exact ((hm u).1 e).symm
 |none=>
  cases e':(if b=k then some v else lk r b) with
  |none=>rfl
  |some u=>rw [(hm u).2 e'] at e;cases e
theorem lk_apply1 {r:Rows} (h:RisR r) (o:BOp) (k:List UInt8):lk (apply1 r o) k=if o.key=k then (if o.del then none else some o.val) else lk r k:=by
 unfold apply1
 cases hd:o.del with
 |true=>
  rw [if_pos rfl,lk_del]
  by_cases e:k=o.key
  ·rw [if_pos e,if_pos e.symm];rfl
  ·rw [if_neg e,if_neg fun q=>e q.symm]
 |false=>
  rw [if_neg (by decide),lk_putR h]
  by_cases e:k=o.key
  ·rw [if_pos e,if_pos e.symm];rfl
  ·rw [if_neg e,if_neg fun q=>e q.symm]
def says (r:Rows) (ops:List BOp) (k:List UInt8):Option (List UInt8):=match zBx ops k with
 |some o=>if o.del then none else some o.val
 |none=>lk r k
theorem lk_applyB {r:Rows} (h:RisR r) (ops:List BOp) (k:List UInt8):lk (zAf r ops) k=says r ops k:=by
 induction ops generalizing r with
 |nil=>rfl
 |cons o ops ih=>
  show lk (zAf (apply1 r o) ops) k=_
  rw [ih (apply1_ris h o)]
  unfold says
  rw [zBx]
  cases e:zBx ops k with
  |some x=>rfl
  |none=>
   rw [Option.none_or]
   dsimp only
   rw [lk_apply1 h]
   by_cases c:o.key=k
   ·rw [if_pos c,if_pos c]
    unfold BOp.nrm
    cases o.del <;> rfl
   ·rw [if_neg c,if_neg c]
theorem lastOf_normD (l:List BOp) (k:List UInt8):zBx (zBy l) k=zBx l k:=by
 have hm:∀ x,zBx (zBy l) k=some x↔zBx l k=some x:=fun x=>by
  rw [lastOf_rising (normD_rising l) (fun _ q=>normD_nrm q),normD_mem]
  constructor
  ·rintro ⟨a,b⟩;rw [← b];exact a
  ·intro a;have:=(lastOf_some a).1;rw [this];exact ⟨a,rfl⟩
 cases e:zBx (zBy l) k with
 |some x=>exact ((hm x).1 e).symm
 |none=>
  cases e':zBx l k with
  |none=>rfl
  |some x=>rw [(hm x).2 e'] at e;cases e
theorem normD_idem (l:List BOp):zBy (zBy l)=zBy l:=normD_congr (lastOf_normD l)
def btw:Nat→Rows→Rows→List BOp
 |0,_,_=>[]
 |_+1,[],[]=>[]
 |n+1,p::a,[]=>⟨true,p.1,[]⟩::btw n a []
 |n+1,[],q::b=>⟨false,q.1,q.2⟩::btw n [] b
 |n+1,p::a,q::b=>if Op.bytesLess p.1 q.1=true then ⟨true,p.1,[]⟩::btw n a (q::b) else if Op.bytesLess q.1 p.1=true then ⟨false,q.1,q.2⟩::btw n (p::a) b
  else if p.2=q.2 then btw n a b else ⟨false,q.1,q.2⟩::btw n a b
def Need (a b:Rows) (x:BOp):Prop:=(x.del=true∧x.val=[]∧lk b x.key=none∧(lk a x.key).isSome=true)∨(x.del=false∧lk b x.key=some x.val∧lk a x.key≠some x.val)
theorem lk_cons (p:List UInt8 × List UInt8) (r:Rows) (k:List UInt8):lk (p::r) k=if p.1=k then some p.2 else lk r k:=rfl
theorem ris_cons {p:List UInt8 × List UInt8} {r:Rows} (h:RisR (p::r)):RisR r∧(∀ q ∈ r,Op.bytesLess p.1 q.1=true):=⟨(List.pairwise_cons.1 h).2,(List.pairwise_cons.1 h).1⟩
theorem lk_below {r:Rows} {k:List UInt8} (h:∀ q ∈ r,Op.bytesLess k q.1=true):lk r k=none:=lk_none.2 fun p hp e=>by have:=h p hp;rw [e,tl_irr] at this;cases this
theorem need_in {a b:Rows} {x:BOp} (h:Need a b x):(lk a x.key).isSome=true∨(lk b x.key).isSome=true:=by
 rcases h with ⟨_,_,_,h⟩|⟨_,h,_⟩
 ·exact .inl h
 ·rw [h];exact .inr rfl
theorem need_above {a b:Rows} {k:List UInt8} (ha:∀ q ∈ a,Op.bytesLess k q.1=true) (hb:∀ q ∈ b,Op.bytesLess k q.1=true) {x:BOp} (h:Need a b x):Op.bytesLess k x.key=true:=by
 rcases need_in h with h|h
 ·cases e:lk a x.key with
  |none=>rw [e] at h;cases h
  |some v=>exact ha _ (lk_mem e)
 ·cases e:lk b x.key with
  |none=>rw [e] at h;cases h
  |some v=>exact hb _ (lk_mem e)
theorem bop_eq {x:BOp} {d:Bool} {k v:List UInt8} (h1:x.del=d) (h2:x.key=k) (h3:x.val=v):x=⟨d,k,v⟩:=by cases x;simp_all
theorem need_old {a b a' b':Rows} {k:List UInt8} (ea:∀ j,j≠k→lk a j=lk a' j) (eb:∀ j,j≠k→lk b j=lk b' j) (ha:lk a' k=none) (hb:lk b' k=none) (x:BOp):Need a b x↔(x.key=k∧Need a b x)∨Need a' b' x:=by
 by_cases e:x.key=k
 ·constructor
  ·intro h;exact .inl ⟨e,h⟩
  ·rintro (h|h)
   ·exact h.2
   ·rcases need_in h with q|q
    ·rw [e,ha] at q;cases q
    ·rw [e,hb] at q;cases q
 ·unfold Need
  rw [ea _ e,eb _ e]
  constructor
  ·exact .inr
  ·rintro (h|h)
   ·exact absurd h.1 e
   ·exact h
theorem btw_spec:∀ (n:Nat) (a b:Rows),a.length+b.length≤n→RisR a→RisR b→Rising BOp.key (btw n a b)∧∀ x,x ∈ btw n a b↔Need a b x:=by
 intro n
 induction n with
 |zero=>
  intro a b hl _ _
  have ha:a=[]:=List.length_eq_zero_iff.1 (by omega)
  have hb:b=[]:=List.length_eq_zero_iff.1 (by omega)
  subst ha;subst hb
  exact ⟨List.Pairwise.nil,fun x=>⟨fun h=>absurd h (by simp [btw]),fun h=>by rcases need_in h with q|q <;> cases q⟩⟩
 |succ n ih=>
  intro a b hl ha hb
  have mk:∀ (k:List UInt8) (a' b':Rows) (hd:List BOp),hd.length≤1→(∀ x ∈ hd,x.key=k)→a'.length+b'.length≤n→RisR a'→RisR b'→(∀ q ∈ a',Op.bytesLess k q.1=true)→(∀ q ∈ b',Op.bytesLess k q.1=true)→
   (∀ j,j≠k→lk a j=lk a' j)→(∀ j,j≠k→lk b j=lk b' j)→(∀ x,x ∈ hd↔x.key=k∧Need a b x)→Rising BOp.key (hd++btw n a' b')∧∀ x,x ∈ hd++btw n a' b'↔Need a b x:=by
   intro k a' b' hd h1 hk h2 h3 h4 h5 h6 h7 h8 h9
   obtain ⟨i1,i2⟩:=ih a' b' h2 h3 h4
   refine ⟨?_,fun x=>?_⟩
   ·refine List.pairwise_append.2 ⟨?_,i1,fun x hx y hy=>?_⟩
    ·cases hd with
     |nil=>exact List.Pairwise.nil
     |cons z r=>
      have:r=[]:=List.length_eq_zero_iff.1 (by simp only [List.length_cons] at h1;omega)
      subst this
      exact List.pairwise_cons.2 ⟨fun _ h=>absurd h (by simp),List.Pairwise.nil⟩
    ·rw [hk x hx]
     exact need_above h5 h6 ((i2 y).1 hy)
   ·rw [List.mem_append,h9,i2]
    exact (need_old h7 h8 (lk_below h5) (lk_below h6) x).symm
  cases a with
  |nil=>
   cases b with
   |nil=>exact ⟨List.Pairwise.nil,fun x=>⟨fun h=>absurd h (by simp [btw]),fun h=>by rcases need_in h with q|q <;> cases q⟩⟩
   |cons q b=>
    obtain ⟨b1,b2⟩:=ris_cons hb
    refine mk q.1 [] b [⟨false,q.1,q.2⟩] (Nat.le_refl _) (fun x hx=>by rw [List.mem_singleton.1 hx]) (by simp only [List.length_cons,List.length_nil] at hl ⊢;omega) ha b1 (fun _ h=>absurd h (by simp)) b2 (fun _ _=>rfl) (fun j hj=>by rw [lk_cons,if_neg fun e=>hj e.symm]) fun x=>?_
    rw [List.mem_singleton]
    constructor
    ·rintro rfl
     exact ⟨rfl,.inr ⟨rfl,by rw [lk_cons,if_pos rfl],fun h=>by cases h⟩⟩
    ·rintro ⟨e,h|h⟩
     ·obtain ⟨_,_,_,h⟩:=h;cases h
     ·obtain ⟨h1,h2,_⟩:=h
      rw [lk_cons,if_pos e.symm] at h2
      exact bop_eq h1 e (Option.some.inj h2).symm
  |cons p a=>
   obtain ⟨a1,a2⟩:=ris_cons ha
   cases b with
   |nil=>
    refine mk p.1 a [] [⟨true,p.1,[]⟩] (Nat.le_refl _) (fun x hx=>by rw [List.mem_singleton.1 hx]) (by simp only [List.length_cons,List.length_nil] at hl ⊢;omega) a1 hb a2 (fun _ h=>absurd h (by simp)) (fun j hj=>by rw [lk_cons,if_neg fun e=>hj e.symm]) (fun _ _=>rfl) fun x=>?_
    rw [List.mem_singleton]
    constructor
    ·rintro rfl
     exact ⟨rfl,.inl ⟨rfl,rfl,rfl,by rw [lk_cons,if_pos rfl];rfl⟩⟩
    ·rintro ⟨e,h|h⟩
     ·exact bop_eq h.1 e h.2.1
     ·obtain ⟨_,h2,_⟩:=h;cases h2
   |cons q b=>
    obtain ⟨b1,b2⟩:=ris_cons hb
    unfold btw
    split
    ·rename_i hpq
     have hbk:∀ r ∈ q::b,Op.bytesLess p.1 r.1=true:=fun r hr=>by
      rcases List.mem_cons.1 hr with e|e
      ·rw [e];exact hpq
      ·exact tl_tr hpq (b2 r e)
     refine mk p.1 a (q::b) [⟨true,p.1,[]⟩] (Nat.le_refl _) (fun x hx=>by rw [List.mem_singleton.1 hx]) (by simp only [List.length_cons] at hl ⊢;omega) a1 hb a2 hbk (fun j hj=>by rw [lk_cons,if_neg fun e=>hj e.symm]) (fun _ _=>rfl) fun x=>?_
     rw [List.mem_singleton]
     constructor
     ·rintro rfl
      exact ⟨rfl,.inl ⟨rfl,rfl,lk_below hbk,by rw [lk_cons,if_pos rfl];rfl⟩⟩
     ·rintro ⟨e,h|h⟩
      ·exact bop_eq h.1 e h.2.1
      ·obtain ⟨_,h2,_⟩:=h
       rw [e,lk_below hbk] at h2;cases h2
    ·rename_i hpq
     split
     ·rename_i hqp
      have hak:∀ r ∈ p::a,Op.bytesLess q.1 r.1=true:=fun r hr=>by
       rcases List.mem_cons.1 hr with e|e
       ·rw [e];exact hqp
       ·exact tl_tr hqp (a2 r e)
      refine mk q.1 (p::a) b [⟨false,q.1,q.2⟩] (Nat.le_refl _) (fun x hx=>by rw [List.mem_singleton.1 hx]) (by simp only [List.length_cons] at hl ⊢;omega) ha b1 hak b2 (fun _ _=>rfl) (fun j hj=>by rw [lk_cons,if_neg fun e=>hj e.symm]) fun x=>?_
      rw [List.mem_singleton]
      constructor
      ·rintro rfl
       exact ⟨rfl,.inr ⟨rfl,by rw [lk_cons,if_pos rfl],fun h=>by rw [lk_below hak] at h;cases h⟩⟩
      ·rintro ⟨e,h|h⟩
       ·obtain ⟨_,_,h2,_⟩:=h
        rw [lk_cons,if_pos e.symm] at h2;cases h2
       ·obtain ⟨h1,h2,_⟩:=h
        rw [lk_cons,if_pos e.symm] at h2
        exact bop_eq h1 e (Option.some.inj h2).symm
     ·rename_i hqp
      have hk:p.1=q.1:=by
       by_cases e:p.1=q.1
       ·exact e
       ·rcases tl_tot _ _ e with c|c
        ·exact absurd c hpq
        ·exact absurd c hqp
      have ga:∀ r ∈ a,Op.bytesLess q.1 r.1=true:=fun r hr=>by rw [← hk];exact a2 r hr
      split
      ·rename_i hv
       refine mk q.1 a b [] (Nat.zero_le _) (fun x hx=>absurd hx (by simp)) (by simp only [List.length_cons] at hl;omega) a1 b1 ga b2 (fun j hj=>by rw [lk_cons,if_neg fun e=>hj (e.symm.trans hk)]) (fun j hj=>by rw [lk_cons,if_neg fun e=>hj e.symm]) fun x=>?_
       refine ⟨fun h=>absurd h (by simp),?_⟩
       rintro ⟨e,h|h⟩
       ·obtain ⟨_,_,h2,_⟩:=h
        rw [lk_cons,if_pos e.symm] at h2;cases h2
       ·obtain ⟨_,h2,h3⟩:=h
        rw [lk_cons,if_pos e.symm] at h2
        rw [lk_cons,if_pos (hk.trans e.symm),hv] at h3
        exact absurd h2 h3
      ·rename_i hv
       refine mk q.1 a b [⟨false,q.1,q.2⟩] (Nat.le_refl _) (fun x hx=>by rw [List.mem_singleton.1 hx]) (by simp only [List.length_cons] at hl;omega) a1 b1 ga b2 (fun j hj=>by rw [lk_cons,if_neg fun e=>hj (e.symm.trans hk)]) (fun j hj=>by rw [lk_cons,if_neg fun e=>hj e.symm]) fun x=>?_
       rw [List.mem_singleton]
       constructor
       ·rintro rfl
        refine ⟨rfl,.inr ⟨rfl,by rw [lk_cons,if_pos rfl],fun h=>?_⟩⟩
        rw [lk_cons,if_pos hk] at h
        exact hv (Option.some.inj h)
       ·rintro ⟨e,h|h⟩
        ·obtain ⟨_,_,h2,_⟩:=h
         rw [lk_cons,if_pos e.symm] at h2;cases h2
        ·obtain ⟨h1,h2,_⟩:=h
         rw [lk_cons,if_pos e.symm] at h2
         exact bop_eq h1 e (Option.some.inj h2).symm
def zAs (a b:Rows):List BOp:=btw (a.length+b.length) a b
theorem between_rising {a b:Rows} (ha:RisR a) (hb:RisR b):Rising BOp.key (zAs a b):=(btw_spec _ a b (Nat.le_refl _) ha hb).1
theorem between_mem {a b:Rows} (ha:RisR a) (hb:RisR b) (x:BOp):x ∈ zAs a b↔Need a b x:=(btw_spec _ a b (Nat.le_refl _) ha hb).2 x
theorem need_nrm {a b:Rows} {x:BOp} (h:Need a b x):x.nrm=x:=by
 obtain ⟨d,k,v⟩:=x
 rcases h with ⟨h1,h2,_⟩|⟨h1,_⟩
 ·cases h1;cases h2;rfl
 ·cases h1;rfl
theorem between_apply {a b:Rows} (ha:RisR a) (hb:RisR b):zAf a (zAs a b)=b:=by
 refine rows_ext (applyB_ris ha _) hb fun k=>?_
 rw [lk_applyB ha]
 unfold says
 have hl:=lastOf_rising (between_rising ha hb) (fun x hx=>need_nrm ((between_mem ha hb x).1 hx)) k
 cases e:zBx (zAs a b) k with
 |some x=>
  obtain ⟨h,rfl⟩:=(hl x).1 e
  rcases (between_mem ha hb x).1 h with ⟨h1,_,h2,_⟩|⟨h1,h2,_⟩
  ·dsimp only;rw [h1,h2];rfl
  ·dsimp only;rw [h1,h2];rfl
 |none=>
  have no:∀ x:BOp,x.key=k→¬ Need a b x:=fun x hx hn=>by
   have:=(hl x).2 ⟨(between_mem ha hb x).2 hn,hx⟩
   rw [e] at this;cases this
  dsimp only
  cases hbk:lk b k with
  |none=>
   cases hak:lk a k with
   |none=>rfl
   |some v=>exact absurd (.inl ⟨rfl,rfl,hbk,by rw [hak];rfl⟩) (no ⟨true,k,[]⟩ rfl)
  |some v=>
   by_cases c:lk a k=some v
   ·exact c
   ·exact absurd (.inr ⟨rfl,hbk,c⟩) (no ⟨false,k,v⟩ rfl)
def goes (a b:Rows):List BOp:=(a.filter fun p=>(lk b p.1).isNone).map fun p=>⟨true,p.1,[]⟩
def comes (a b:Rows):List BOp:=(b.filter fun p=>decide (lk a p.1≠some p.2)).map fun p=>⟨false,p.1,p.2⟩
theorem between_prog {a b:Rows} (ha:RisR a) (hb:RisR b):zBy (goes a b++comes a b)=zAs a b:=by
 have hg:∀ x,x ∈ goes a b↔x.del=true∧x.val=[]∧lk b x.key=none∧(lk a x.key).isSome=true:=fun x=>by
  unfold goes
  rw [List.mem_map]
  constructor
  ·rintro ⟨p,hp,rfl⟩
   obtain ⟨h1,h2⟩:=List.mem_filter.1 hp
   exact ⟨rfl,rfl,by simpa using h2,by rw [lk_of ha.nodup h1];rfl⟩
  ·rintro ⟨h1,h2,h3,h4⟩
   cases e:lk a x.key with
   |none=>rw [e] at h4;cases h4
   |some v=>exact ⟨(x.key,v),List.mem_filter.2 ⟨lk_mem e,by simpa using h3⟩,(bop_eq h1 rfl h2).symm⟩
 have hc:∀ x,x ∈ comes a b↔x.del=false∧lk b x.key=some x.val∧lk a x.key≠some x.val:=fun x=>by
  unfold comes
  rw [List.mem_map]
  constructor
  ·rintro ⟨p,hp,rfl⟩
   obtain ⟨h1,h2⟩:=List.mem_filter.1 hp
   exact ⟨rfl,lk_of hb.nodup h1,by simpa using h2⟩
  ·rintro ⟨h1,h2,h3⟩
   exact ⟨(x.key,x.val),List.mem_filter.2 ⟨lk_mem h2,by simpa using h3⟩,(bop_eq h1 rfl rfl).symm⟩
 have rg:Rising BOp.key (goes a b):=List.pairwise_map.2 (List.Pairwise.sublist List.filter_sublist ha)
 have rc:Rising BOp.key (comes a b):=List.pairwise_map.2 (List.Pairwise.sublist List.filter_sublist hb)
 have lg:=lastOf_rising rg fun x hx=>by obtain ⟨h1,h2,_⟩:=(hg x).1 hx;rw [bop_eq h1 rfl h2];rfl
 have lc:=lastOf_rising rc fun x hx=>by obtain ⟨h1,_⟩:=(hc x).1 hx;rw [bop_eq h1 rfl rfl];rfl
 refine (normD_of (between_rising ha hb) fun x=>?_).symm
 rw [between_mem ha hb,lastOf_append]
 constructor
 ·rintro (h|h)
  ·have:zBx (comes a b) x.key=none:=by
    cases e:zBx (comes a b) x.key with
    |none=>rfl
    |some y=>
     obtain ⟨hy,ey⟩:=(lc _ y).1 e
     have:=((hc y).1 hy).2.1
     rw [ey,h.2.2.1] at this;cases this
   rw [this,Option.none_or]
   exact (lg _ x).2 ⟨(hg x).2 h,rfl⟩
  ·rw [(lc _ x).2 ⟨(hc x).2 h,rfl⟩];rfl
 ·intro h
  cases e:zBx (comes a b) x.key with
  |some y=>
   rw [e] at h
   cases h
   exact .inr ((hc _).1 ((lc _ _).1 e).1)
  |none=>
   rw [e,Option.none_or] at h
   exact .inl ((hg x).1 ((lg _ x).1 h).1)
end Go.Proofs.YtgipenahkmbelaaGreatDoor
