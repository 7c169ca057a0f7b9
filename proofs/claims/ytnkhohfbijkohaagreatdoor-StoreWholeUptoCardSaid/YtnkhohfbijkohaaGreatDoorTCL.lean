/-
  Tord, WrP, BaP, BaQ.
-/
import Derived.Test.YtnkhohfbijkohaaGreatDoorTCH
set_option maxHeartbeats 64000000
namespace Go.Proofs.YtnkhohfbijkohaaGreatDoor
open Go Go.RowKit
theorem tl_irr (a:List UInt8):Op.bytesLess a a=false:=by
 induction a with
 |nil=>rfl
 |cons x a ih=>simp [Op.bytesLess,ih]
theorem tl_tr:∀ {a b c:List UInt8},Op.bytesLess a b=true→Op.bytesLess b c=true→Op.bytesLess a c=true:=by
 intro a
 induction a with
 |nil=>
  intro b c h1 h2
  cases c with
  |nil=>cases b <;> simp [Op.bytesLess] at h2
  |cons z c=>rfl
 |cons x a ih=>
  intro b c h1 h2
  cases b with
  |nil=>simp [Op.bytesLess] at h1
  |cons y b=>
   cases c with
   |nil=>simp [Op.bytesLess] at h2
   |cons z c=>
    simp only [Op.bytesLess,Bool.or_eq_true,decide_eq_true_eq,Bool.and_eq_true,beq_iff_eq] at h1 h2 ⊢
    rcases h1 with h1|⟨rfl,h1⟩
    ·rcases h2 with h2|⟨rfl,h2⟩
     ·exact .inl (UInt8.lt_trans h1 h2)
     ·exact .inl h1
    ·rcases h2 with h2|⟨rfl,h2⟩
     ·exact .inl h2
     ·exact .inr ⟨rfl,ih h1 h2⟩
theorem tl_tot:∀ (a b:List UInt8),a≠b→Op.bytesLess a b=true∨Op.bytesLess b a=true:=by
 intro a
 induction a with
 |nil=>intro b h;cases b with
  |nil=>exact absurd rfl h
  |cons y b=>exact .inl rfl
 |cons x a ih=>
  intro b h
  cases b with
  |nil=>exact .inr rfl
  |cons y b=>
   simp only [Op.bytesLess,Bool.or_eq_true,decide_eq_true_eq,Bool.and_eq_true,beq_iff_eq]
   by_cases e:x=y
   ·subst e
    rcases ih b (fun q=>h (by rw [q])) with q|q
    ·exact .inl (.inr ⟨rfl,q⟩)
    ·exact .inr (.inr ⟨rfl,q⟩)
   ·rcases UInt8.lt_or_lt_of_ne e with q|q
    ·exact .inl (.inl q)
    ·exact .inr (.inl q)
theorem tl_asym {a b:List UInt8} (h:Op.bytesLess a b=true):Op.bytesLess b a=false:=by
 cases q:Op.bytesLess b a with
 |false=>rfl
 |true=>have:=tl_tr h q;rw [tl_irr] at this;cases this
theorem tl_not {a b:List UInt8} (h:Op.bytesLess a b=false) (hne:a≠b):Op.bytesLess b a=true:=by
 rcases tl_tot a b hne with q|q
 ·rw [q] at h;cases h
 ·exact q
def Rising {γ:Type} (f:γ→List UInt8) (l:List γ):Prop:=l.Pairwise fun x y=>Op.bytesLess (f x) (f y)=true
theorem rising_eq {γ:Type} {f:γ→List UInt8}:∀ {l r:List γ},Rising f l→Rising f r→(∀ x,x ∈ l↔x ∈ r)→l=r
 |[],r,_,_,h=>by
  cases r with
  |nil=>rfl
  |cons y r=>exact absurd ((h y).2 (List.mem_cons_self ..)) (by simp)
 |x::l,r,hl,hr,h=>by
  cases r with
  |nil=>exact absurd ((h x).1 (List.mem_cons_self ..)) (by simp)
  |cons y r=>
   obtain ⟨l1,l2⟩:=List.pairwise_cons.1 hl
   obtain ⟨r1,r2⟩:=List.pairwise_cons.1 hr
   have hxy:x=y:=by
    rcases List.mem_cons.1 ((h x).1 (List.mem_cons_self ..)) with e|e
    ·exact e
    ·rcases List.mem_cons.1 ((h y).2 (List.mem_cons_self ..)) with e'|e'
     ·exact e'.symm
     ·have:=tl_tr (r1 x e) (l1 y e');rw [tl_irr] at this;cases this
   subst hxy
   rw [rising_eq l2 r2 (fun z=>?_)]
   constructor
   ·intro hz
    rcases List.mem_cons.1 ((h z).1 (List.mem_cons_of_mem _ hz)) with e|e
    ·subst e;have:=l1 z hz;rw [tl_irr] at this;cases this
    ·exact e
   ·intro hz
    rcases List.mem_cons.1 ((h z).2 (List.mem_cons_of_mem _ hz)) with e|e
    ·subst e;have:=r1 z hz;rw [tl_irr] at this;cases this
    ·exact e
end Go.Proofs.YtnkhohfbijkohaaGreatDoor
namespace Go.Proofs.YtnkhohfbijkohaaGreatDoor
open Go Go.RowKit
def vuF:Nat→Nat→List UInt8
 |0,_=>[]
 |f+1,x=>if x<128 then [UInt8.ofNat x] else UInt8.ofNat (x % 128+128)::vuF f (x / 128)
def vu (x:Nat):List UInt8:=vuF 10 x
inductive Rd (α:Type) where
 |bad (e:Nat)
 |ok (x:α) (t:List UInt8)
def ruG:List UInt8→Nat→Nat→Rd Nat
 |[],_,_=>.bad 1
 |b::t,i,acc=>if i=9∧1<b.toNat then .bad 2 else if b.toNat<128 then (if b.toNat=0∧0<i then .bad 2 else .ok (acc+b.toNat*2 ^ (7*i)) t) else ruG t (i+1) (acc+b.toNat % 128*2 ^ (7*i))
def ru (l:List UInt8):Rd Nat:=ruG l 0 0
def rtx (most:Nat) (l:List UInt8):Rd (List UInt8):=match ru l with
 |.bad e=>.bad e
 |.ok n t=>if most<n then .bad 3 else if t.length<n then .bad 1 else .ok (t.take n) (t.drop n)
def tx (s:List UInt8):List UInt8:=vu s.length++s
theorem vuF_le:∀ (f x:Nat),(vuF f x).length≤f
 |0,_=>Nat.le_refl _
 |f+1,x=>by
  unfold vuF
  split
  ·simp
  ·have:=vuF_le f (x / 128);simp;omega
theorem vuF_pos (f x:Nat):1≤(vuF (f+1) x).length:=by
 unfold vuF
 split <;> simp
theorem ruG_vuF:∀ (f i x acc:Nat) (t:List UInt8),x<2 ^ (64-7*i)→(0<i→0<x)→f+i=10→1≤f→ruG (vuF f x++t) i acc=.ok (acc+x*2 ^ (7*i)) t:=by
 intro f
 induction f with
 |zero=>intro i x acc t _ _ _ h;omega
 |succ f ih=>
  intro i x acc t hx h0 hf _
  by_cases h:x<128
  ·have e:(UInt8.ofNat x).toNat=x:=by rw [UInt8.toNat_ofNat'];omega
   have h9:¬ (i=9∧1<x):=by
    rintro ⟨rfl,h1⟩
    have:x<2 ^ 1:=hx
    omega
   unfold vuF
   rw [if_pos h]
   show (if i=9∧1<(UInt8.ofNat x).toNat then _ else _)=_
   rw [e,if_neg h9,if_pos h,if_neg (by omega)]
   rfl
  ·have e:(UInt8.ofNat (x % 128+128)).toNat=x % 128+128:=by rw [UInt8.toNat_ofNat'];omega
   have hi:i<9:=by
    apply Decidable.byContradiction
    intro hh
    have hi9:i=9:=by omega
    subst hi9
    have:x<2 ^ 1:=hx
    omega
   unfold vuF
   rw [if_neg h]
   show (if i=9∧1<(UInt8.ofNat (x % 128+128)).toNat then _ else _)=_
   rw [e,if_neg (by omega),if_neg (by omega)]
   have hx2:x / 128<2 ^ (64-7*(i+1)):=by
    have e2:64-7*i=(64-7*(i+1))+7:=by omega
    rw [e2,Nat.pow_add] at hx
    exact Nat.div_lt_of_lt_mul (by rw [Nat.mul_comm];exact hx)
   have:=ih (i+1) (x / 128) (acc+(x % 128+128) % 128*2 ^ (7*i)) t hx2 (fun _=>by omega) (by omega) (by omega)
   rw [show vuF f (x / 128)++t=vuF f (x / 128)++t from rfl] at this
   refine this.trans ?_
   congr 1
   have e3:2 ^ (7*(i+1))=128*2 ^ (7*i):=by rw [show 7*(i+1)=7+7*i by omega,Nat.pow_add]
   rw [e3]
   have e4:(x % 128+128) % 128=x % 128:=by omega
   rw [e4,Nat.add_assoc,← Nat.mul_assoc,← Nat.add_mul]
   congr 2
   omega
theorem ru_vu (x:Nat) (hx:x<2 ^ 64) (t:List UInt8):ru (vu x++t)=.ok x t:=by
 have:=ruG_vuF 10 0 x 0 t hx (fun h=>by omega) rfl (by omega)
 show ruG (vuF 10 x++t) 0 0=_
 simpa using this
theorem vuF_ruG:∀ (f:Nat) (l:List UInt8) (i acc x:Nat) (t:List UInt8),ruG l i acc=.ok x t→f+i=10→1≤f→∃ y,x=acc+y*2 ^ (7*i)∧l=vuF f y++t∧y<2 ^ (64-7*i)∧(0<i→0<y):=by
 intro f
 induction f with
 |zero=>intro l i acc x t _ _ h;omega
 |succ f ih=>
  intro l i acc x t h hf _
  cases l with
  |nil=>cases h
  |cons b l=>
   have hb:=UInt8.toNat_lt b
   have hu:ruG (b::l) i acc=if i=9∧1<b.toNat then .bad 2 else if b.toNat<128 then (if b.toNat=0∧0<i then .bad 2 else .ok (acc+b.toNat*2 ^ (7*i)) l) else ruG l (i+1) (acc+b.toNat % 128*2 ^ (7*i)):=rfl
   rw [hu] at h
   split at h
   ·cases h
   rename_i h9
   split at h
   ·rename_i h1
    split at h
    ·cases h
    rename_i h2
    cases h
    refine ⟨b.toNat,rfl,?_,?_,fun h0=>by omega⟩
    ·unfold vuF
     rw [if_pos h1,UInt8.ofNat_toNat];rfl
    ·by_cases hi:i=9
     ·subst hi
      show b.toNat<2 ^ 1
      omega
     ·have:2 ^ 7≤2 ^ (64-7*i):=Nat.pow_le_pow_right (by omega) (by omega)
      omega
   ·rename_i h1
    have hi:i<9:=by omega
    obtain ⟨y,y1,y2,y3,y4⟩:=ih l (i+1) _ x t h (by omega) (by omega)
    have e3:2 ^ (7*(i+1))=128*2 ^ (7*i):=by rw [show 7*(i+1)=7+7*i by omega,Nat.pow_add]
    refine ⟨y*128+b.toNat % 128,?_,?_,?_,fun _=>by have:=y4 (by omega);omega⟩
    ·rw [y1,e3,Nat.add_assoc,← Nat.mul_assoc,← Nat.add_mul]
     congr 2
     omega
    ·have h128:¬ y*128+b.toNat % 128<128:=by have:=y4 (by omega);omega
     unfold vuF
     rw [if_neg h128]
     have e1:(y*128+b.toNat % 128) % 128+128=b.toNat:=by omega
     have e2:(y*128+b.toNat % 128) / 128=y:=by omega
     rw [e1,e2,UInt8.ofNat_toNat,y2];rfl
    ·have e2:64-7*i=(64-7*(i+1))+7:=by omega
     rw [e2,Nat.pow_add]
     omega
theorem vu_ru {l t:List UInt8} {x:Nat} (h:ru l=.ok x t):l=vu x++t∧x<2 ^ 64:=by
 obtain ⟨y,y1,y2,y3,-⟩:=vuF_ruG 10 l 0 0 x t h rfl (by omega)
 have:x=y:=by simpa using y1
 subst this
 exact ⟨y2,y3⟩
theorem rtx_tx (most:Nat) (s t:List UInt8) (h:s.length≤most) (hl:s.length<2 ^ 64):rtx most (tx s++t)=.ok s t:=by
 unfold rtx tx
 rw [List.append_assoc,ru_vu _ hl]
 dsimp only
 rw [if_neg (by omega),if_neg (by rw [List.length_append];omega),List.take_left' rfl,List.drop_left' rfl]
theorem tx_rtx {most:Nat} {l s t:List UInt8} (h:rtx most l=.ok s t):l=tx s++t∧s.length≤most:=by
 unfold rtx at h
 cases hr:ru l with
 |bad e=>rw [hr] at h;cases h
 |ok n t'=>
  rw [hr] at h
  dsimp only at h
  split at h
  ·cases h
  split at h
  ·cases h
  cases h
  obtain ⟨e,-⟩:=vu_ru hr
  have hl:(t'.take n).length=n:=by rw [List.length_take];omega
  refine ⟨?_,by omega⟩
  unfold tx
  rw [hl,List.append_assoc,List.take_append_drop,e]
end Go.Proofs.YtnkhohfbijkohaaGreatDoor
namespace Go.Proofs.YtnkhohfbijkohaaGreatDoor
open Go Go.RowKit
section
variable {γ:Type} (f:γ→List UInt8)
def insB:List γ→γ→List γ
 |[],x=>[x]
 |y::r,x=>if Op.bytesLess (f y) (f x)=true then y::insB r x else x::y::r
def atB:List γ→List UInt8→Nat
 |[],_=>0
 |y::r,k=>if Op.bytesLess (f y) k=true then atB r k+1 else 0
def hasB (l:List γ) (k:List UInt8):Bool:=l.any fun x=>decide (f x=k)
variable {f}
theorem hasB_true {l:List γ} {k:List UInt8}:hasB f l k=true↔∃ x ∈ l,f x=k:=by simp [hasB]
theorem hasB_false {l:List γ} {k:List UInt8}:hasB f l k=false↔∀ x ∈ l,f x≠k:=by simp [hasB]
theorem atB_le (l:List γ) (k:List UInt8):atB f l k≤l.length:=by
 induction l with
 |nil=>exact Nat.le_refl _
 |cons y r ih=>unfold atB;split <;> simp [ih]
theorem insB_eq (l:List γ) (x:γ):insB f l x=l.take (atB f l (f x))++[x]++l.drop (atB f l (f x)):=by
 induction l with
 |nil=>rfl
 |cons y r ih=>
  unfold insB atB
  split
  ·rw [ih];rfl
  ·rfl
theorem mem_insB {l:List γ} {x y:γ}:y ∈ insB f l x↔y=x∨y ∈ l:=by
 induction l with
 |nil=>simp [insB]
 |cons z r ih=>
  unfold insB
  split
  ·rw [List.mem_cons,ih,List.mem_cons]
   constructor
   ·rintro (h|h|h)
    ·exact .inr (.inl h)
    ·exact .inl h
    ·exact .inr (.inr h)
   ·rintro (h|h|h)
    ·exact .inr (.inl h)
    ·exact .inl h
    ·exact .inr (.inr h)
  ·rw [List.mem_cons]
theorem insB_rising {l:List γ} {x:γ} (h:Rising f l) (hx:∀ y ∈ l,f y≠f x):Rising f (insB f l x):=by
 induction l with
 |nil=>exact List.pairwise_cons.2 ⟨fun _ h=>absurd h (by simp),List.Pairwise.nil⟩
 |cons z r ih=>
  obtain ⟨h1,h2⟩:=List.pairwise_cons.1 h
  unfold insB
  split
  ·rename_i hz
   refine List.pairwise_cons.2 ⟨fun y hy=>?_,ih h2 fun w hw=>hx w (List.mem_cons_of_mem _ hw)⟩
   rcases mem_insB.1 hy with hy|hy
   ·rw [hy];exact hz
   ·exact h1 y hy
  ·rename_i hz
   have hxz:Op.bytesLess (f x) (f z)=true:=tl_not (by simpa using hz) (hx z (List.mem_cons_self ..))
   refine List.pairwise_cons.2 ⟨fun y hy=>?_,h⟩
   rcases List.mem_cons.1 hy with hy|hy
   ·rw [hy];exact hxz
   ·exact tl_tr hxz (h1 y hy)
theorem rising_uniq {l:List γ} (h:Rising f l) {x y:γ} (hx:x ∈ l) (hy:y ∈ l) (e:f x=f y):x=y:=by
 induction l with
 |nil=>simp at hx
 |cons z r ih=>
  obtain ⟨h1,h2⟩:=List.pairwise_cons.1 h
  rcases List.mem_cons.1 hx with a|a
  ·rcases List.mem_cons.1 hy with b|b
   ·rw [a,b]
   ·have:=h1 y b;rw [← a,e,tl_irr] at this;cases this
  ·rcases List.mem_cons.1 hy with b|b
   ·have:=h1 x a;rw [← b,e,tl_irr] at this;cases this
   ·exact ih h2 a b
end
structure BOp where
 del:Bool
 key:List UInt8
 val:List UInt8
deriving DecidableEq
def BOp.nrm (o:BOp):BOp:=⟨o.del,o.key,if o.del then [] else o.val⟩
theorem nrm_nrm (o:BOp):o.nrm.nrm=o.nrm:=by
 obtain ⟨d,k,v⟩:=o
 cases d <;> rfl
def zBy:List BOp→List UInt8→Option BOp
 |[],_=>none
 |o::r,k=>(zBy r k).or (if o.key=k then some o.nrm else none)
theorem lastOf_append (a b:List BOp) (k:List UInt8):zBy (a++b) k=(zBy b k).or (zBy a k):=by
 induction a with
 |nil=>simp [zBy]
 |cons o a ih=>rw [List.cons_append,zBy,ih,zBy,Option.or_assoc]
theorem lastOf_one (a:List BOp) (o:BOp) (k:List UInt8):zBy (a++[o]) k=if o.key=k then some o.nrm else zBy a k:=by
 rw [lastOf_append]
 by_cases e:o.key=k <;> simp [zBy,e]
theorem lastOf_some {l:List BOp} {k:List UInt8} {x:BOp} (h:zBy l k=some x):x.key=k∧x.nrm=x:=by
 induction l with
 |nil=>cases h
 |cons o r ih=>
  rw [zBy] at h
  cases e:zBy r k with
  |some y=>rw [e] at h;cases h;exact ih e
  |none=>
   rw [e,Option.none_or] at h
   split at h
   ·rename_i ek;cases h;exact ⟨ek,nrm_nrm o⟩
   ·cases h
def zAr:List BOp→List BOp
 |[]=>[]
 |o::r=>if hasB BOp.key (zAr r) o.key=true then zAr r else insB BOp.key (zAr r) o.nrm
theorem normD_spec (l:List BOp):Rising BOp.key (zAr l)∧∀ x,x ∈ zAr l↔zBy l x.key=some x:=by
 induction l with
 |nil=>exact ⟨List.Pairwise.nil,fun x=>by simp [zAr,zBy]⟩
 |cons o r ih=>
  obtain ⟨h1,h2⟩:=ih
  unfold zAr
  split
  ·rename_i hh
   refine ⟨h1,fun x=>?_⟩
   rw [h2,zBy]
   obtain ⟨y,hy,ey⟩:=hasB_true.1 hh
   rw [h2] at hy
   cases e:zBy r x.key with
   |some z=>rfl
   |none=>
    by_cases c:o.key=x.key
    ·rw [← c,← ey,hy] at e;cases e
    ·simp [c]
  ·rename_i hh
   have hf:=hasB_false.1 (by simpa using hh)
   have hn:zBy r o.key=none:=by
    cases e:zBy r o.key with
    |none=>rfl
    |some z=>
     have hz:=(lastOf_some e).1
     have:=(h2 z).2 (by rw [hz];exact e)
     exact absurd hz (hf z this)
   refine ⟨insB_rising h1 fun y hy=>hf y hy,fun x=>?_⟩
   rw [mem_insB,h2,zBy]
   by_cases c:o.key=x.key
   ·rw [← c,hn,if_pos rfl]
    simp [eq_comm]
   ·rw [if_neg c,Option.or_none]
    constructor
    ·rintro (h|h)
     ·exact absurd (by rw [h];rfl) c
     ·exact h
    ·exact .inr
theorem normD_rising (l:List BOp):Rising BOp.key (zAr l):=(normD_spec l).1
theorem normD_mem (l:List BOp) (x:BOp):x ∈ zAr l↔zBy l x.key=some x:=(normD_spec l).2 x
theorem normD_nrm {l:List BOp} {x:BOp} (h:x ∈ zAr l):x.nrm=x:=(lastOf_some ((normD_mem l x).1 h)).2
theorem normD_of {l r:List BOp} (hr:Rising BOp.key r) (h:∀ x,x ∈ r↔zBy l x.key=some x):r=zAr l:=rising_eq hr (normD_rising l) fun x=>(h x).trans (normD_mem l x).symm
theorem lastOf_rising {l:List BOp} (hl:Rising BOp.key l) (hn:∀ x ∈ l,x.nrm=x) (k:List UInt8):∀ x,zBy l k=some x↔x ∈ l∧x.key=k:=by
 induction l with
 |nil=>intro x;simp [zBy]
 |cons o r ih=>
  obtain ⟨h1,h2⟩:=List.pairwise_cons.1 hl
  have ih:=fun x=>ih h2 (fun y hy=>hn y (List.mem_cons_of_mem _ hy)) x
  intro x
  rw [zBy]
  by_cases e:o.key=k
  ·have:zBy r k=none:=by
    cases q:zBy r k with
    |none=>rfl
    |some z=>
     have hz:=(lastOf_some q).1
     have hm:z ∈ r:=((ih z).1 q).1
     have:=h1 z hm
     rw [e,hz,tl_irr] at this;cases this
   rw [this,if_pos e,Option.none_or,hn o (List.mem_cons_self ..)]
   constructor
   ·intro h;cases h;exact ⟨List.mem_cons_self ..,e⟩
   ·rintro ⟨h,hk⟩
    rw [rising_uniq hl h (List.mem_cons_self ..) (hk.trans e.symm)]
  ·rw [if_neg e,Option.or_none,ih,List.mem_cons]
   constructor
   ·rintro ⟨a,b⟩;exact ⟨.inr a,b⟩
   ·rintro ⟨a|a,b⟩
    ·rw [a] at b;exact absurd b e
    ·exact ⟨a,b⟩
end Go.Proofs.YtnkhohfbijkohaaGreatDoor
namespace Go.Proofs.YtnkhohfbijkohaaGreatDoor
open Go Go.RowKit
abbrev Rows:=List (List UInt8 × List UInt8)
def RisR (r:Rows):Prop:=Rising Prod.fst r
theorem RisR.nodup {r:Rows} (h:RisR r):(r.map (·.1)).Nodup:=List.pairwise_map.2 (h.imp fun {a b} q e=>by rw [e,tl_irr] at q;cases q)
theorem rows_mem {r:Rows} (h:RisR r) (k v:List UInt8):(k,v) ∈ r↔lk r k=some v:=⟨fun q=>lk_of h.nodup q,lk_mem⟩
theorem rows_ext {a b:Rows} (ha:RisR a) (hb:RisR b) (h:∀ k,lk a k=lk b k):a=b:=rising_eq ha hb fun ⟨k,v⟩=>by rw [rows_mem ha,rows_mem hb,h]
def putR (r:Rows) (k v:List UInt8):Rows:=if hasB Prod.fst r k=true then r.map (fun p=>if p.1=k then (k,v) else p) else insB Prod.fst r (k,v)
def apply1 (r:Rows) (o:BOp):Rows:=if o.del then mdel r o.key else putR r o.key o.val
def zAu (r:Rows) (ops:List BOp):Rows:=ops.foldl apply1 r
theorem has_lk {r:Rows} {k:List UInt8}:hasB Prod.fst r k=(lk r k).isSome:=by
 cases e:lk r k with
 |none=>exact hasB_false.2 (lk_none.1 e)
 |some v=>exact hasB_true.2 ⟨(k,v),lk_mem e,rfl⟩
theorem putR_ris {r:Rows} (h:RisR r) (k v:List UInt8):RisR (putR r k v):=by
 unfold putR
 split
 ·unfold RisR Rising
  rw [List.pairwise_map]
  refine h.imp fun {a b} q=>?_
  have e:∀ p:List UInt8 × List UInt8,(if p.1=k then (k,v) else p).1=p.1:=fun p=>by
   split
   ·rename_i e;exact e.symm
   ·rfl
  rw [e,e];exact q
 ·rename_i hh
  exact insB_rising h fun y hy=>hasB_false.1 (by simpa using hh) y hy
theorem mdel_ris {r:Rows} (h:RisR r) (k:List UInt8):RisR (mdel r k):=List.Pairwise.sublist List.filter_sublist h
theorem apply1_ris {r:Rows} (h:RisR r) (o:BOp):RisR (apply1 r o):=by
 unfold apply1
 split
 ·exact mdel_ris h _
 ·exact putR_ris h _ _
theorem applyB_ris {r:Rows} (h:RisR r) (ops:List BOp):RisR (zAu r ops):=by
 induction ops generalizing r with
 |nil=>exact h
 |cons o ops ih=>exact ih (apply1_ris h o)
theorem lk_putR {r:Rows} (h:RisR r) (k v b:List UInt8):lk (putR r k v) b=if b=k then some v else lk r b:=by
 have hp:=putR_ris h k v
 have hm:∀ u,lk (putR r k v) b=some u↔(if b=k then some v else lk r b)=some u:=fun u=>by
  rw [← rows_mem hp]
  unfold putR
  split
  ·rename_i hh
   rw [List.mem_map]
   obtain ⟨p,hpm,hpk⟩:=hasB_true.1 hh
   constructor
   ·rintro ⟨q,hq,e⟩
    split at e
    ·cases e;rw [if_pos rfl]
    ·rename_i hne
     subst e
     rw [if_neg hne]
     exact (rows_mem h _ _).1 hq
   ·intro e
    split at e
    ·rename_i hb
     cases e
     exact ⟨p,hpm,by rw [if_pos hpk,hb]⟩
    ·rename_i hb
     exact ⟨(b,u),(rows_mem h _ _).2 e,by rw [if_neg hb]⟩
  ·rename_i hh
   rw [mem_insB,rows_mem h]
   have hn:lk r k=none:=by
    have:hasB Prod.fst r k=false:=by simpa using hh
    rw [has_lk] at this
    cases e:lk r k with
    |none=>rfl
    |some _=>rw [e] at this;cases this
   by_cases hb:b=k
   ·subst hb
    rw [if_pos rfl,hn]
    simp [eq_comm]
   ·rw [if_neg hb]
    simp [hb]
 cases e:lk (putR r k v) b with
 |some u=>exact ((hm u).1 e).symm
 |none=>
  cases e':(if b=k then some v else lk r b) with
  |none=>rfl
  |some u=>rw [(hm u).2 e'] at e;cases e
theorem lk_apply1 {r:Rows} (h:RisR r) (o:BOp) (k:List UInt8):lk (apply1 r o) k=if o.key=k then (if o.del then none else some o.val) else lk r k:=by
 unfold apply1
 cases hd:o.del with
 |true=>
  rw [if_pos rfl,lk_del]
  by_cases e:k=o.key
  ·rw [if_pos e,if_pos e.symm];rfl
  ·rw [if_neg e,if_neg fun q=>e q.symm]
 |false=>
  rw [if_neg (by decide),lk_putR h]
  by_cases e:k=o.key
  ·rw [if_pos e,if_pos e.symm];rfl
  ·rw [if_neg e,if_neg fun q=>e q.symm]
def says (r:Rows) (ops:List BOp) (k:List UInt8):Option (List UInt8):=match zBy ops k with
 |some o=>if o.del then none else some o.val
 |none=>lk r k
theorem lk_applyB {r:Rows} (h:RisR r) (ops:List BOp) (k:List UInt8):lk (zAu r ops) k=says r ops k:=by
 induction ops generalizing r with
 |nil=>rfl
 |cons o ops ih=>
  show lk (zAu (apply1 r o) ops) k=_
  rw [ih (apply1_ris h o)]
  unfold says
  rw [zBy]
  cases e:zBy ops k with
  |some x=>rfl
  |none=>
   rw [Option.none_or]
   dsimp only
   rw [lk_apply1 h]
   by_cases c:o.key=k
   ·rw [if_pos c,if_pos c]
    unfold BOp.nrm
    cases o.del <;> rfl
   ·rw [if_neg c,if_neg c]
theorem lastOf_normD (l:List BOp) (k:List UInt8):zBy (zAr l) k=zBy l k:=by
 have hm:∀ x,zBy (zAr l) k=some x↔zBy l k=some x:=fun x=>by
  rw [lastOf_rising (normD_rising l) (fun _ q=>normD_nrm q),normD_mem]
  constructor
  ·rintro ⟨a,b⟩;rw [← b];exact a
  ·intro a;have:=(lastOf_some a).1;rw [this];exact ⟨a,rfl⟩
 cases e:zBy (zAr l) k with
 |some x=>exact ((hm x).1 e).symm
 |none=>
  cases e':zBy l k with
  |none=>rfl
  |some x=>rw [(hm x).2 e'] at e;cases e
theorem apply_normD {r:Rows} (h:RisR r) (ops:List BOp):zAu r (zAr ops)=zAu r ops:=
 rows_ext (applyB_ris h _) (applyB_ris h _) fun k=>by rw [lk_applyB h,lk_applyB h];unfold says;rw [lastOf_normD]
def btw:Nat→Rows→Rows→List BOp
 |0,_,_=>[]
 |_+1,[],[]=>[]
 |n+1,p::a,[]=>⟨true,p.1,[]⟩::btw n a []
 |n+1,[],q::b=>⟨false,q.1,q.2⟩::btw n [] b
 |n+1,p::a,q::b=>if Op.bytesLess p.1 q.1=true then ⟨true,p.1,[]⟩::btw n a (q::b) else if Op.bytesLess q.1 p.1=true then ⟨false,q.1,q.2⟩::btw n (p::a) b
  else if p.2=q.2 then btw n a b else ⟨false,q.1,q.2⟩::btw n a b
theorem lk_cons (p:List UInt8 × List UInt8) (r:Rows) (k:List UInt8):lk (p::r) k=if p.1=k then some p.2 else lk r k:=rfl
theorem ris_cons {p:List UInt8 × List UInt8} {r:Rows} (h:RisR (p::r)):RisR r∧(∀ q ∈ r,Op.bytesLess p.1 q.1=true):=⟨(List.pairwise_cons.1 h).2,(List.pairwise_cons.1 h).1⟩
theorem lk_below {r:Rows} {k:List UInt8} (h:∀ q ∈ r,Op.bytesLess k q.1=true):lk r k=none:=lk_none.2 fun p hp e=>by have:=h p hp;rw [e,tl_irr] at this;cases this
def between (a b:Rows):List BOp:=btw (a.length+b.length) a b
def goes (a b:Rows):List BOp:=(a.filter fun p=>(lk b p.1).isNone).map fun p=>⟨true,p.1,[]⟩
def comes (a b:Rows):List BOp:=(b.filter fun p=>decide (lk a p.1≠some p.2)).map fun p=>⟨false,p.1,p.2⟩
end Go.Proofs.YtnkhohfbijkohaaGreatDoor
