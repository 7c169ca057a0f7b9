/-
  Tord, WrP, BaP, BaQ.
-/
import Derived.Test.YtlnbkbfblhofbaaGreatDoorVCG
set_option maxHeartbeats 64000000
namespace Go.Proofs.YtlnbkbfblhofbaaGreatDoor
open Go Go.RowKit
theorem yDg (a:List UInt8):Op.bytesLess a a=false:=by
 induction a with
 |nil=>rfl
 |cons x a ih=>simp [Op.bytesLess,ih]
theorem yGN:∀ {a b c:List UInt8},Op.bytesLess a b=true→Op.bytesLess b c=true→Op.bytesLess a c=true:=by
 intro a
 induction a with
 |nil=>
  intro b c h1 h2
  cases c with
  |nil=>cases b <;> simp [Op.bytesLess] at h2
  |cons z c=>rfl
 |cons x a ih=>
  intro b c h1 h2
  cases b with
  |nil=>simp [Op.bytesLess] at h1
  |cons y b=>
   cases c with
   |nil=>simp [Op.bytesLess] at h2
   |cons z c=>
    simp only [Op.bytesLess,Bool.or_eq_true,decide_eq_true_eq,zLw,beq_iff_eq] at h1 h2 ⊢
    rcases h1 with h1|⟨rfl,h1⟩
    ·rcases h2 with h2|⟨rfl,h2⟩
     ·exact .inl (UInt8.lt_trans h1 h2)
     ·exact .inl h1
    ·rcases h2 with h2|⟨rfl,h2⟩
     ·exact .inl h2
     ·exact .inr ⟨rfl,ih h1 h2⟩
theorem yMn:∀ (a b:List UInt8),a≠b→Op.bytesLess a b=true∨Op.bytesLess b a=true:=by
 intro a
 induction a with
 |nil=>intro b h;cases b with
  |nil=>exact absurd rfl h
  |cons y b=>exact .inl rfl
 |cons x a ih=>
  intro b h
  cases b with
  |nil=>exact .inr rfl
  |cons y b=>
   simp only [Op.bytesLess,Bool.or_eq_true,decide_eq_true_eq,zLw,beq_iff_eq]
   by_cases e:x=y
   ·subst e
    rcases ih b (fun q=>h (by rw [q])) with q|q
    ·exact .inl (.inr ⟨rfl,q⟩)
    ·exact .inr (.inr ⟨rfl,q⟩)
   ·rcases UInt8.lt_or_lt_of_ne e with q|q
    ·exact .inl (.inl q)
    ·exact .inr (.inl q)
theorem yFi {a b:List UInt8} (h:Op.bytesLess a b=true):Op.bytesLess b a=false:=by
 cases q:Op.bytesLess b a with
 |false=>rfl
 |true=>have:=yGN h q;rw [yDg] at this;cases this
theorem yIW {a b:List UInt8} (h:Op.bytesLess a b=false) (hne:a≠b):Op.bytesLess b a=true:=by
 rcases yMn a b hne with q|q
 ·rw [q] at h;cases h
 ·exact q
def yDL {γ:Type} (f:γ→List UInt8) (l:List γ):Prop:=l.Pairwise fun x y=>Op.bytesLess (f x) (f y)=true
theorem yIX {γ:Type} {f:γ→List UInt8}:∀ {l r:List γ},yDL f l→yDL f r→(∀ x,x ∈ l↔x ∈ r)→l=r
 |[],r,_,_,h=>by
  cases r with
  |nil=>rfl
  |cons y r=>exact absurd ((h y).2 (List.mem_cons_self ..)) zW
 |x::l,r,hl,hr,h=>by
  cases r with
  |nil=>exact absurd ((h x).1 (List.mem_cons_self ..)) zW
  |cons y r=>
   obtain ⟨l1,l2⟩:=List.pairwise_cons.1 hl
   obtain ⟨r1,r2⟩:=List.pairwise_cons.1 hr
   have hxy:x=y:=by
    rcases zLm.1 ((h x).1 (List.mem_cons_self ..)) with e|e
    ·exact e
    ·rcases zLm.1 ((h y).2 (List.mem_cons_self ..)) with e'|e'
     ·exact e'.symm
     ·have:=yGN (r1 x e) (l1 y e');rw [yDg] at this;cases this
   subst hxy
   rw [yIX l2 r2 (fun z=>?_)]
   constructor
   ·intro hz
    rcases zLm.1 ((h z).1 (List.mem_cons_of_mem _ hz)) with e|e
    ·subst e;have:=l1 z hz;rw [yDg] at this;cases this
    ·exact e
   ·intro hz
    rcases zLm.1 ((h z).2 (List.mem_cons_of_mem _ hz)) with e|e
    ·subst e;have:=r1 z hz;rw [yDg] at this;cases this
    ·exact e
def vuF:Nat→Nat→List UInt8
 |0,_=>[]
 |f+1,x=>if x<128 then [UInt8.ofNat x] else UInt8.ofNat (x % 128+128)::vuF f (x / 128)
def vu (x:Nat):List UInt8:=vuF 10 x
inductive Rd (α:Type) where
 |bad (e:Nat)
 |ok (x:α) (t:List UInt8)
def ruG:List UInt8→Nat→Nat→Rd Nat
 |[],_,_=>.bad 1
 |b::t,i,acc=>if i=9∧1<b.toNat then .bad 2 else if b.toNat<128 then (if b.toNat=0∧0<i then .bad 2 else .ok (acc+b.toNat*2 ^ (7*i)) t) else ruG t (i+1) (acc+b.toNat % 128*2 ^ (7*i))
def ru (l:List UInt8):Rd Nat:=ruG l 0 0
def rtx (most:Nat) (l:List UInt8):Rd (List UInt8):=match ru l with
 |.bad e=>.bad e
 |.ok n t=>if most<n then .bad 3 else if t.length<n then .bad 1 else .ok (t.take n) (t.drop n)
def tx (s:List UInt8):List UInt8:=vu s.length++s
theorem yO0:∀ (f x:Nat),(vuF f x).length≤f
 |0,_=>Nat.le_refl _
 |f+1,x=>by
  unfold vuF
  split
  ·simp
  ·have:=yO0 f (x / 128);simp;omega
theorem ySb (f x:Nat):1≤(vuF (f+1) x).length:=by
 unfold vuF
 split <;> simp
theorem yXp:∀ (f i x acc:Nat) (t:List UInt8),x<2 ^ (64-7*i)→(0<i→0<x)→f+i=10→1≤f→ruG (vuF f x++t) i acc=.ok (acc+x*2 ^ (7*i)) t:=by
 intro f
 induction f with
 |zero=>intro i x acc t _ _ _ h;omega
 |succ f ih=>
  intro i x acc t hx h0 hf _
  by_cases h:x<128
  ·have e:(UInt8.ofNat x).toNat=x:=by rw [UInt8.toNat_ofNat'];omega
   have h9:¬ (i=9∧1<x):=by
    rintro ⟨rfl,h1⟩
    have:x<2 ^ 1:=hx
    omega
   unfold vuF
   rw [if_pos h]
   show (if i=9∧1<(UInt8.ofNat x).toNat then _ else _)=_
   rw [e,if_neg h9,if_pos h,if_neg zO]
   rfl
  ·have e:(UInt8.ofNat (x % 128+128)).toNat=x % 128+128:=by rw [UInt8.toNat_ofNat'];omega
   have hi:i<9:=by
    apply Decidable.byContradiction
    intro hh
    have hi9:i=9:=zO
    subst hi9
    have:x<2 ^ 1:=hx
    omega
   unfold vuF
   rw [if_neg h]
   show (if i=9∧1<(UInt8.ofNat (x % 128+128)).toNat then _ else _)=_
   rw [e,if_neg zO,if_neg zO]
   have hx2:x / 128<2 ^ (64-7*(i+1)):=by
    have e2:64-7*i=(64-7*(i+1))+7:=zO
    rw [e2,Nat.pow_add] at hx
    exact Nat.div_lt_of_lt_mul (by rw [Nat.mul_comm];exact hx)
   have:=ih (i+1) (x / 128) (acc+(x % 128+128) % 128*2 ^ (7*i)) t hx2 (fun _=>by omega) zO zO
   rw [show vuF f (x / 128)++t=vuF f (x / 128)++t from rfl] at this
   refine this.trans ?_
   congr 1
   have e3:2 ^ (7*(i+1))=128*2 ^ (7*i):=by rw [show 7*(i+1)=7+7*i by omega,Nat.pow_add]
   rw [e3]
   have e4:(x % 128+128) % 128=x % 128:=zO
   rw [e4,Nat.add_assoc,← Nat.mul_assoc,← Nat.add_mul]
   congr 2
   omega
theorem yEJ (x:Nat) (hx:x<2 ^ 64) (t:List UInt8):ru (vu x++t)=.ok x t:=by
 have:=yXp 10 0 x 0 t hx (fun h=>by omega) rfl zO
 show ruG (vuF 10 x++t) 0 0=_
 simpa using this
theorem yXq:∀ (f:Nat) (l:List UInt8) (i acc x:Nat) (t:List UInt8),ruG l i acc=.ok x t→f+i=10→1≤f→∃ y,x=acc+y*2 ^ (7*i)∧l=vuF f y++t∧y<2 ^ (64-7*i)∧(0<i→0<y):=by
 intro f
 induction f with
 |zero=>intro l i acc x t _ _ h;omega
 |succ f ih=>
  intro l i acc x t h hf _
  cases l with
  |nil=>cases h
  |cons b l=>
   have hb:=zLy b
   have hu:ruG (b::l) i acc=if i=9∧1<b.toNat then .bad 2 else if b.toNat<128 then (if b.toNat=0∧0<i then .bad 2 else .ok (acc+b.toNat*2 ^ (7*i)) l) else ruG l (i+1) (acc+b.toNat % 128*2 ^ (7*i)):=rfl
   rw [hu] at h
   split at h
   ·cases h
   rename_i h9
   split at h
   ·rename_i h1
    split at h
    ·cases h
    rename_i h2
    cases h
    refine ⟨b.toNat,rfl,?_,?_,fun h0=>by omega⟩
    ·unfold vuF
     rw [if_pos h1,UInt8.ofNat_toNat];rfl
    ·by_cases hi:i=9
     ·subst hi
      show b.toNat<2 ^ 1
      omega
     ·have:2 ^ 7≤2 ^ (64-7*i):=Nat.pow_le_pow_right zO zO
      omega
   ·rename_i h1
    have hi:i<9:=zO
    obtain ⟨y,y1,y2,y3,y4⟩:=ih l (i+1) _ x t h zO zO
    have e3:2 ^ (7*(i+1))=128*2 ^ (7*i):=by rw [show 7*(i+1)=7+7*i by omega,Nat.pow_add]
    refine ⟨y*128+b.toNat % 128,?_,?_,?_,fun _=>by have:=y4 zO;omega⟩
    ·rw [y1,e3,Nat.add_assoc,← Nat.mul_assoc,← Nat.add_mul]
     congr 2
     omega
    ·have h128:¬ y*128+b.toNat % 128<128:=by have:=y4 zO;omega
     unfold vuF
     rw [if_neg h128]
     have e1:(y*128+b.toNat % 128) % 128+128=b.toNat:=zO
     have e2:(y*128+b.toNat % 128) / 128=y:=zO
     rw [e1,e2,UInt8.ofNat_toNat,y2];rfl
    ·have e2:64-7*i=(64-7*(i+1))+7:=by omega
     rw [e2,Nat.pow_add]
     omega
theorem yGO {l t:List UInt8} {x:Nat} (h:ru l=.ok x t):l=vu x++t∧x<2 ^ 64:=by
 obtain ⟨y,y1,y2,y3,-⟩:=yXq 10 l 0 0 x t h rfl zO
 have:x=y:=by simpa using y1
 subst this
 exact ⟨y2,y3⟩
theorem yO1 (most:Nat) (s t:List UInt8) (h:s.length≤most) (hl:s.length<2 ^ 64):rtx most (tx s++t)=.ok s t:=by
 unfold rtx tx
 rw [zLd,yEJ _ hl]
 dsimp only
 rw [if_neg zO,if_neg (by rw [zLa];omega),List.take_left' rfl,List.drop_left' rfl]
theorem yKb {most:Nat} {l s t:List UInt8} (h:rtx most l=.ok s t):l=tx s++t∧s.length≤most:=by
 unfold rtx at h
 cases hr:ru l with
 |bad e=>rw [hr] at h;cases h
 |ok n t'=>
  rw [hr] at h
  dsimp only at h
  split at h
  ·cases h
  split at h
  ·cases h
  cases h
  obtain ⟨e,-⟩:=yGO hr
  have hl:(t'.take n).length=n:=by rw [zLg];omega
  refine ⟨?_,zO⟩
  unfold tx
  rw [hl,zLd,zLu,e]
section
variable {γ:Type} (f:γ→List UInt8)
def yO2:List γ→γ→List γ
 |[],x=>[x]
 |y::r,x=>if Op.bytesLess (f y) (f x)=true then y::yO2 r x else x::y::r
def atB:List γ→List UInt8→Nat
 |[],_=>0
 |y::r,k=>if Op.bytesLess (f y) k=true then atB r k+1 else 0
def yJY (l:List γ) (k:List UInt8):Bool:=l.any fun x=>decide (f x=k)
variable {f}
theorem hasB_true {l:List γ} {k:List UInt8}:yJY f l k=true↔∃ x ∈ l,f x=k:=by simp [yJY]
theorem hasB_false {l:List γ} {k:List UInt8}:yJY f l k=false↔∀ x ∈ l,f x≠k:=by simp [yJY]
theorem yO3 (l:List γ) (k:List UInt8):atB f l k≤l.length:=by
 induction l with
 |nil=>exact Nat.le_refl _
 |cons y r ih=>unfold atB;split <;> simp [ih]
theorem yLb (l:List γ) (x:γ):yO2 f l x=l.take (atB f l (f x))++[x]++l.drop (atB f l (f x)):=by
 induction l with
 |nil=>rfl
 |cons y r ih=>
  unfold yO2 atB
  split
  ·rw [ih];rfl
  ·rfl
theorem mem_insB {l:List γ} {x y:γ}:y ∈ yO2 f l x↔y=x∨y ∈ l:=by
 induction l with
 |nil=>simp [yO2]
 |cons z r ih=>
  unfold yO2
  split
  ·rw [zLm,ih,zLm]
   constructor
   ·rintro (h|h|h)
    ·exact .inr (.inl h)
    ·exact .inl h
    ·exact .inr (.inr h)
   ·rintro (h|h|h)
    ·exact .inr (.inl h)
    ·exact .inl h
    ·exact .inr (.inr h)
  ·rw [zLm]
theorem yIY {l:List γ} {x:γ} (h:yDL f l) (hx:∀ y ∈ l,f y≠f x):yDL f (yO2 f l x):=by
 induction l with
 |nil=>exact List.pairwise_cons.2 ⟨fun _ h=>absurd h zW,List.Pairwise.nil⟩
 |cons z r ih=>
  obtain ⟨h1,h2⟩:=List.pairwise_cons.1 h
  unfold yO2
  split
  ·rename_i hz
   refine List.pairwise_cons.2 ⟨fun y hy=>?_,ih h2 fun w hw=>hx w (List.mem_cons_of_mem _ hw)⟩
   rcases mem_insB.1 hy with hy|hy
   ·rw [hy];exact hz
   ·exact h1 y hy
  ·rename_i hz
   have hxz:Op.bytesLess (f x) (f z)=true:=yIW (by simpa using hz) (hx z (List.mem_cons_self ..))
   refine List.pairwise_cons.2 ⟨fun y hy=>?_,h⟩
   rcases zLm.1 hy with hy|hy
   ·rw [hy];exact hxz
   ·exact yGN hxz (h1 y hy)
theorem yNN {l:List γ} (h:yDL f l) (k:List UInt8):∀ (i:Nat) (y:γ),l[i]? = some y→(Op.bytesLess (f y) k=true↔i<atB f l k):=by
 induction l with
 |nil=>intro i y hy;simp at hy
 |cons z r ih=>
  obtain ⟨h1,h2⟩:=List.pairwise_cons.1 h
  intro i y hy
  unfold atB
  by_cases hz:Op.bytesLess (f z) k=true
  ·rw [if_pos hz]
   cases i with
   |zero=>cases hy;simp [hz]
   |succ i=>rw [ih h2 i y hy];omega
  ·rw [if_neg hz]
   refine ⟨fun q=>?_,fun q=>absurd q (Nat.not_lt_zero _)⟩
   cases i with
   |zero=>cases hy;exact absurd q hz
   |succ i=>
    have:=h1 y (zLk hy)
    exact absurd (yGN this q) hz
theorem yLc {l:List γ} (h:yDL f l) (k:List UInt8):yJY f l k=true↔∃ y,l[atB f l k]? = some y∧f y=k:=by
 rw [hasB_true]
 constructor
 ·rintro ⟨x,hx,rfl⟩
  obtain ⟨i,hi⟩:=List.mem_iff_getElem?.1 hx
  have q:=yNN h (f x) i x hi
  rw [yDg] at q
  have hge:atB f l (f x)≤i:=by
   by_cases c:i<atB f l (f x)
   ·exact absurd (q.2 c) zX
   ·omega
  by_cases c:atB f l (f x)=i
  ·rw [c];exact ⟨x,hi,rfl⟩
  ·have hil:i<l.length:=(zLc.1 hi).1
   have hlt:atB f l (f x)<l.length:=zO
   have hb:=zLb hlt
   have q2:=yNN h (f x) _ _ hb
   have hno:Op.bytesLess (f l[atB f l (f x)]) (f x)=false:=by
    cases e:Op.bytesLess (f l[atB f l (f x)]) (f x) with
    |false=>rfl
    |true=>exact absurd (q2.1 e) (Nat.lt_irrefl _)
   have hp:=(List.pairwise_iff_getElem.1 h) (atB f l (f x)) i hlt hil zO
   rw [(zLc.1 hi).2] at hp
   rw [hp] at hno;cases hno
 ·rintro ⟨y,hy,e⟩
  exact ⟨y,zLk hy,e⟩
end
structure BOp where
 del:Bool
 key:List UInt8
 val:List UInt8
deriving DecidableEq
def BOp.nrm (o:BOp):BOp:=⟨o.del,o.key,if o.del then [] else o.val⟩
theorem yXr (o:BOp):o.nrm.nrm=o.nrm:=by
 obtain ⟨d,k,v⟩:=o
 cases d <;> rfl
def yBT:List BOp→List UInt8→Option BOp
 |[],_=>none
 |o::r,k=>(yBT r k).or (if o.key=k then some o.nrm else none)
theorem yLd (a b:List BOp) (k:List UInt8):yBT (a++b) k=(yBT b k).or (yBT a k):=by
 induction a with
 |nil=>simp [yBT]
 |cons o a ih=>rw [List.cons_append,yBT,ih,yBT,Option.or_assoc]
theorem yQb (a:List BOp) (o:BOp) (k:List UInt8):yBT (a++[o]) k=if o.key=k then some o.nrm else yBT a k:=by
 rw [yLd]
 by_cases e:o.key=k <;> simp [yBT,e]
theorem yGn {l:List BOp} {k:List UInt8} {x:BOp} (h:yBT l k=some x):x.key=k∧x.nrm=x:=by
 induction l with
 |nil=>cases h
 |cons o r ih=>
  rw [yBT] at h
  cases e:yBT r k with
  |some y=>rw [e] at h;cases h;exact ih e
  |none=>
   rw [e,Option.none_or] at h
   split at h
   ·rename_i ek;cases h;exact ⟨ek,yXr o⟩
   ·cases h
def yA1:List BOp→List BOp
 |[]=>[]
 |o::r=>if yJY BOp.key (yA1 r) o.key=true then yA1 r else yO2 BOp.key (yA1 r) o.nrm
theorem yKc (l:List BOp):yDL BOp.key (yA1 l)∧∀ x,x ∈ yA1 l↔yBT l x.key=some x:=by
 induction l with
 |nil=>exact ⟨List.Pairwise.nil,fun x=>by simp [yA1,yBT]⟩
 |cons o r ih=>
  obtain ⟨h1,h2⟩:=ih
  unfold yA1
  split
  ·rename_i hh
   refine ⟨h1,fun x=>?_⟩
   rw [h2,yBT]
   obtain ⟨y,hy,ey⟩:=hasB_true.1 hh
   rw [h2] at hy
   cases e:yBT r x.key with
   |some z=>rfl
   |none=>
    by_cases c:o.key=x.key
    ·rw [← c,← ey,hy] at e;cases e
    ·simp [c]
  ·rename_i hh
   have hf:=hasB_false.1 (by simpa using hh)
   have hn:yBT r o.key=none:=by
    cases e:yBT r o.key with
    |none=>rfl
    |some z=>
     have hz:=(yGn e).1
     have:=(h2 z).2 (by rw [hz];exact e)
     exact absurd hz (hf z this)
   refine ⟨yIY h1 fun y hy=>hf y hy,fun x=>?_⟩
   rw [mem_insB,h2,yBT]
   by_cases c:o.key=x.key
   ·rw [← c,hn,if_pos rfl]
    simp [eq_comm]
   ·rw [if_neg c,Option.or_none]
    constructor
    ·rintro (h|h)
     ·exact absurd (by rw [h];rfl) c
     ·exact h
    ·exact .inr
theorem yId (l:List BOp):yDL BOp.key (yA1 l):=(yKc l).1
theorem yMo (l:List BOp) (x:BOp):x ∈ yA1 l↔yBT l x.key=some x:=(yKc l).2 x
theorem ySc {l:List BOp} {x:BOp} (h:x ∈ yA1 l):x.nrm=x:=(yGn ((yMo l x).1 h)).2
theorem yUK {l r:List BOp} (hr:yDL BOp.key r) (h:∀ x,x ∈ r↔yBT l x.key=some x):r=yA1 l:=yIX hr (yId l) fun x=>(h x).trans (yMo l x).symm
abbrev Rows:=List (List UInt8 × List UInt8)
def RisR (r:Rows):Prop:=yDL Prod.fst r
theorem RisR.nodup {r:Rows} (h:RisR r):(r.map (·.1)).Nodup:=List.pairwise_map.2 (h.imp fun {a b} q e=>by rw [e,yDg] at q;cases q)
theorem yEK {r:Rows} (h:RisR r) (k v:List UInt8):(k,v) ∈ r↔lk r k=some v:=⟨fun q=>yR5 h.nodup q,yMl⟩
theorem yGP {a b:Rows} (ha:RisR a) (hb:RisR b) (h:∀ k,lk a k=lk b k):a=b:=yIX ha hb fun ⟨k,v⟩=>by rw [yEK ha,yEK hb,h]
def yE4 (r:Rows) (k v:List UInt8):Rows:=if yJY Prod.fst r k=true then r.map (fun p=>if p.1=k then (k,v) else p) else yO2 Prod.fst r (k,v)
def yFj (r:Rows) (o:BOp):Rows:=if o.del then yF6 r o.key else yE4 r o.key o.val
def yAJ (r:Rows) (ops:List BOp):Rows:=ops.foldl yFj r
theorem yWj {r:Rows} {k:List UInt8}:yJY Prod.fst r k=(lk r k).isSome:=by
 cases e:lk r k with
 |none=>exact hasB_false.2 (lk_none.1 e)
 |some v=>exact hasB_true.2 ⟨(k,v),yMl e,rfl⟩
theorem yCm {r:Rows} (h:RisR r) (k v:List UInt8):RisR (yE4 r k v):=by
 unfold yE4
 split
 ·unfold RisR yDL
  rw [List.pairwise_map]
  refine h.imp fun {a b} q=>?_
  have e:∀ p:List UInt8 × List UInt8,(if p.1=k then (k,v) else p).1=p.1:=fun p=>by
   split
   ·rename_i e;exact e.symm
   ·rfl
  rw [e,e];exact q
 ·rename_i hh
  exact yIY h fun y hy=>hasB_false.1 (by simpa using hh) y hy
theorem yLe {r:Rows} (h:RisR r) (k:List UInt8):RisR (yF6 r k):=List.Pairwise.sublist List.filter_sublist h
theorem yKd {r:Rows} (h:RisR r) (o:BOp):RisR (yFj r o):=by
 unfold yFj
 split
 ·exact yLe h _
 ·exact yCm h _ _
theorem yHE {r:Rows} (h:RisR r) (ops:List BOp):RisR (yAJ r ops):=by
 induction ops generalizing r with
 |nil=>exact h
 |cons o ops ih=>exact ih (yKd h o)
theorem yEL {r:Rows} (h:RisR r) (k v b:List UInt8):lk (yE4 r k v) b=if b=k then some v else lk r b:=by
 have hp:=yCm h k v
 have hm:∀ u,lk (yE4 r k v) b=some u↔(if b=k then some v else lk r b)=some u:=fun u=>by
  rw [← yEK hp]
  unfold yE4
  split
  ·rename_i hh
   rw [List.mem_map]
   obtain ⟨p,hpm,hpk⟩:=hasB_true.1 hh
   constructor
   ·rintro ⟨q,hq,e⟩
    split at e
    ·cases e;rw [if_pos rfl]
    ·rename_i hne
     subst e
     rw [if_neg hne]
     exact (yEK h _ _).1 hq
   ·intro e
    split at e
    ·rename_i hb
     cases e
     exact ⟨p,hpm,by rw [if_pos hpk,hb]⟩
    ·rename_i hb
     exact ⟨(b,u),(yEK h _ _).2 e,by rw [if_neg hb]⟩
  ·rename_i hh
   rw [mem_insB,yEK h]
   have hn:lk r k=none:=by
    have:yJY Prod.fst r k=false:=by simpa using hh
    rw [yWj] at this
    cases e:lk r k with
    |none=>rfl
    |some _=>rw [e] at this;cases this
   by_cases hb:b=k
   ·subst hb
    rw [if_pos rfl,hn]
    simp [eq_comm]
   ·rw [if_neg hb]
    simp [hb]
 cases e:lk (yE4 r k v) b with
 |some u=>exact ((hm u).1 e).symm
 |none=>
  cases e':(if b=k then some v else lk r b) with
  |none=>rfl
  |some u=>rw [(hm u).2 e'] at e;cases e
def xAV (r:Rows) (ops:List BOp) (k:List UInt8):Option (List UInt8):=match yBT ops k with
 |some o=>if o.del then none else some o.val
 |none=>lk r k
def btw:Nat→Rows→Rows→List BOp
 |0,_,_=>[]
 |_+1,[],[]=>[]
 |n+1,p::a,[]=>⟨true,p.1,[]⟩::btw n a []
 |n+1,[],q::b=>⟨false,q.1,q.2⟩::btw n [] b
 |n+1,p::a,q::b=>if Op.bytesLess p.1 q.1=true then ⟨true,p.1,[]⟩::btw n a (q::b) else if Op.bytesLess q.1 p.1=true then ⟨false,q.1,q.2⟩::btw n (p::a) b
  else if p.2=q.2 then btw n a b else ⟨false,q.1,q.2⟩::btw n a b
theorem yNO (p:List UInt8 × List UInt8) (r:Rows) (k:List UInt8):lk (p::r) k=if p.1=k then some p.2 else lk r k:=rfl
theorem yUL {p:List UInt8 × List UInt8} {r:Rows} (h:RisR (p::r)):RisR r∧(∀ q ∈ r,Op.bytesLess p.1 q.1=true):=⟨(List.pairwise_cons.1 h).2,(List.pairwise_cons.1 h).1⟩
theorem yGQ {r:Rows} {k:List UInt8} (h:∀ q ∈ r,Op.bytesLess k q.1=true):lk r k=none:=lk_none.2 fun p hp e=>by have:=h p hp;rw [e,yDg] at this;cases this
def xAm (a b:Rows):List BOp:=btw (a.length+b.length) a b
def xAW (a b:Rows):List BOp:=(a.filter fun p=>(lk b p.1).isNone).map fun p=>⟨true,p.1,[]⟩
def xAL (a b:Rows):List BOp:=(b.filter fun p=>decide (lk a p.1≠some p.2)).map fun p=>⟨false,p.1,p.2⟩
end Go.Proofs.YtlnbkbfblhofbaaGreatDoor
