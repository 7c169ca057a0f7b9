/-
  Tord, WrP, BaP, BaQ, AvP.
-/
import Derived.Test.YtoipmnikdiogcaaGreatDoorYCH
set_option maxHeartbeats 64000000
namespace Go.Proofs.YtoipmnikdiogcaaGreatDoor
open Go Go.RowKit
theorem yDi (a:zB):Op.bytesLess a a=false:=by
 induction a with
 |nil=>rfl
 |cons x a ih=>simp [Op.bytesLess,ih]
theorem yG1:∀ {a b c:zB},Op.bytesLess a b=true→Op.bytesLess b c=true→Op.bytesLess a c=true:=by
 intro a
 induction a with
 |nil=>
  intro b c h1 h2;cases c with
  |nil=>cases b <;> simp [Op.bytesLess] at h2
  |cons z c=>rfl
 |cons x a ih=>
  intro b c h1 h2;cases b with
  |nil=>simp [Op.bytesLess] at h1
  |cons y b=>
   cases c with
   |nil=>simp [Op.bytesLess] at h2
   |cons z c=>
    simp only [Op.bytesLess,Bool.or_eq_true,decide_eq_true_eq,zLw,beq_iff_eq] at h1 h2 ⊢;rcases h1 with h1|⟨rfl,h1⟩
    ·rcases h2 with h2|⟨rfl,h2⟩
     ·exact .inl (UInt8.lt_trans h1 h2)
     ·exact .inl h1
    ·rcases h2 with h2|⟨rfl,h2⟩
     ·exact .inl h2
     ·exact .inr ⟨rfl,ih h1 h2⟩
theorem yN4:∀ (a b:zB),a≠b→Op.bytesLess a b=true∨Op.bytesLess b a=true:=by
 intro a
 induction a with
 |nil=>intro b h;cases b with
  |nil=>exact absurd rfl h
  |cons y b=>exact .inl rfl
 |cons x a ih=>
  intro b h;cases b with
  |nil=>exact .inr rfl
  |cons y b=>
   simp only [Op.bytesLess,Bool.or_eq_true,decide_eq_true_eq,zLw,beq_iff_eq];by_cases e:x=y
   ·subst e;rcases ih b (fun q=>h (by rw [q])) with q|q
    ·exact .inl (.inr ⟨rfl,q⟩)
    ·exact .inr (.inr ⟨rfl,q⟩)
   ·rcases UInt8.lt_or_lt_of_ne e with q|q
    ·exact .inl (.inl q)
    ·exact .inr (.inl q)
theorem yGb {a b:zB} (h:Op.bytesLess a b=true):Op.bytesLess b a=false:=by
 cases q:Op.bytesLess b a with
 |false=>rfl
 |true=>have:=yG1 h q;rw [yDi] at this;cases this
theorem yKl {a b:zB} (h:Op.bytesLess a b=false) (ao:a≠b):Op.bytesLess b a=true:=by
 rcases yN4 a b ao with q|q
 ·rw [q] at h;cases h
 ·exact q
def yDA {γ:Type} (f:γ→zB) (l:List γ):Prop:=l.Pairwise fun x y=>Op.bytesLess (f x) (f y)=true
theorem yKm {γ:Type} {f:γ→zB}:∀ {l r:List γ},yDA f l→yDA f r→(∀ x,x ∈ l↔x ∈ r)→l=r
 |[],r,_,_,h=>by
  cases r with
  |nil=>rfl
  |cons y r=>exact absurd ((h y).2 (List.mem_cons_self ..)) zW
 |x::l,r,hl,hr,h=>by
  cases r with
  |nil=>exact absurd ((h x).1 (List.mem_cons_self ..)) zW
  |cons y r=>
   obtain ⟨l1,l2⟩:=List.pairwise_cons.1 hl;obtain ⟨r1,r2⟩:=List.pairwise_cons.1 hr;have hxy:x=y:=by
    rcases zLm.1 ((h x).1 (List.mem_cons_self ..)) with e|e
    ·exact e
    ·rcases zLm.1 ((h y).2 (List.mem_cons_self ..)) with e'|e'
     ·exact e'.symm
     ·have:=yG1 (r1 x e) (l1 y e');rw [yDi] at this;cases this
   subst hxy;rw [yKm l2 r2 (fun z=>?_)];constructor
   ·intro hz;rcases zLm.1 ((h z).1 (List.mem_cons_of_mem _ hz)) with e|e
    ·subst e;have:=l1 z hz;rw [yDi] at this;cases this
    ·exact e
   ·intro hz;rcases zLm.1 ((h z).2 (List.mem_cons_of_mem _ hz)) with e|e
    ·subst e;have:=r1 z hz;rw [yDi] at this;cases this
    ·exact e
def vuF:Nat→Nat→zB
 |0,_=>[]
 |f+1,x=>if x<128 then [UInt8.ofNat x] else UInt8.ofNat (x % 128+128)::vuF f (x / 128)
def vu (x:Nat):zB:=vuF 10 x
inductive Rd (α:Type) where
 |bad (e:Nat)
 |ok (x:α) (t:zB)
def ruG:zB→Nat→Nat→Rd Nat
 |[],_,_=>.bad 1
 |b::t,i,an=>if i=9∧1<b.toNat then .bad 2 else if b.toNat<128 then (if b.toNat=0∧0<i then .bad 2 else .ok (an+b.toNat*2 ^ (7*i)) t) else ruG t (i+1) (an+b.toNat % 128*2 ^ (7*i))
def ru (l:zB):Rd Nat:=ruG l 0 0
def rtx (most:Nat) (l:zB):Rd zB:=match ru l with
 |.bad e=>.bad e
 |.ok n t=>if most<n then .bad 3 else if t.length<n then .bad 1 else .ok (t.take n) (t.drop n)
def tx (s:zB):zB:=vu s.length++s
theorem yQR:∀ (f x:Nat),(vuF f x).length≤f
 |0,_=>Nat.le_refl _
 |f+1,x=>by
  unfold vuF;split
  ·simp
  ·have:=yQR f (x / 128);simp;omega
theorem yUN (f x:Nat):1≤(vuF (f+1) x).length:=by unfold vuF;split <;> simp
theorem yZP:∀ (f i x an:Nat) (t:zB),x<2 ^ (64-7*i)→(0<i→0<x)→f+i=10→1≤f→ruG (vuF f x++t) i an=.ok (an+x*2 ^ (7*i)) t:=by
 intro f
 induction f with
 |zero=>intro i x an t _ _ _ h;omega
 |succ f ih=>
  intro i x an t hx h0 hf _;by_cases h:x<128
  ·have e:(UInt8.ofNat x).toNat=x:=by rw [UInt8.toNat_ofNat'];omega
   have h9:¬ (i=9∧1<x):=by
    rintro ⟨rfl,h1⟩
    have:x<2 ^ 1:=hx;omega
   unfold vuF;rw [if_pos h];show (if i=9∧1<(UInt8.ofNat x).toNat then _ else _)=_;rw [e,if_neg h9,if_pos h,if_neg zO];rfl
  ·have e:(UInt8.ofNat (x % 128+128)).toNat=x % 128+128:=by rw [UInt8.toNat_ofNat'];omega
   have hi:i<9:=by apply Decidable.byContradiction;intro hh;have hi9:i=9:=zO;subst hi9;have:x<2 ^ 1:=hx;omega
   unfold vuF;rw [if_neg h];show (if i=9∧1<(UInt8.ofNat (x % 128+128)).toNat then _ else _)=_;rw [e,if_neg zO,if_neg zO];have cH:x / 128<2 ^ (64-7*(i+1)):=by have e2:64-7*i=(64-7*(i+1))+7:=zO;rw [e2,Nat.pow_add] at hx;exact Nat.div_lt_of_lt_mul (by rw [Nat.mul_comm];exact hx)
   have:=ih (i+1) (x / 128) (an+(x % 128+128) % 128*2 ^ (7*i)) t cH (fun _=>by omega) zO zO;rw [show vuF f (x / 128)++t=vuF f (x / 128)++t from rfl] at this;refine this.trans ?_;congr 1;have e3:2 ^ (7*(i+1))=128*2 ^ (7*i):=by rw [show 7*(i+1)=7+7*i by omega,Nat.pow_add]
   rw [e3];have e4:(x % 128+128) % 128=x % 128:=zO;rw [e4,Nat.add_assoc,← Nat.mul_assoc,← Nat.add_mul];congr 2;omega
theorem yFz (x:Nat) (hx:x<2 ^ 64) (t:zB):ru (vu x++t)=.ok x t:=by have:=yZP 10 0 x 0 t hx (fun h=>by omega) rfl zO;show ruG (vuF 10 x++t) 0 0=_;simpa using this
theorem yZQ:∀ (f:Nat) (l:zB) (i an x:Nat) (t:zB),ruG l i an=.ok x t→f+i=10→1≤f→∃ y,x=an+y*2 ^ (7*i)∧l=vuF f y++t∧y<2 ^ (64-7*i)∧(0<i→0<y):=by
 intro f
 induction f with
 |zero=>intro l i an x t _ _ h;omega
 |succ f ih=>
  intro l i an x t h hf _;cases l with
  |nil=>cases h
  |cons b l=>
   have hb:=zLy b;have hu:ruG (b::l) i an=if i=9∧1<b.toNat then .bad 2 else if b.toNat<128 then (if b.toNat=0∧0<i then .bad 2 else .ok (an+b.toNat*2 ^ (7*i)) l) else ruG l (i+1) (an+b.toNat % 128*2 ^ (7*i)):=rfl
   rw [hu] at h;split at h
   ·cases h
   rename_i h9;split at h
   ·rename_i h1;split at h
    ·cases h
    rename_i h2;cases h;refine ⟨b.toNat,rfl,?_,?_,fun h0=>by omega⟩
    ·unfold vuF;rw [if_pos h1,UInt8.ofNat_toNat];rfl
    ·by_cases hi:i=9
     ·subst hi;show b.toNat<2 ^ 1;omega
     ·have:2 ^ 7≤2 ^ (64-7*i):=Nat.pow_le_pow_right zO zO;omega
   ·rename_i h1;have hi:i<9:=zO;obtain ⟨y,y1,y2,y3,y4⟩:=ih l (i+1) _ x t h zO zO;have e3:2 ^ (7*(i+1))=128*2 ^ (7*i):=by rw [show 7*(i+1)=7+7*i by omega,Nat.pow_add]
    refine ⟨y*128+b.toNat % 128,?_,?_,?_,fun _=>by have:=y4 zO;omega⟩
    ·rw [y1,e3,Nat.add_assoc,← Nat.mul_assoc,← Nat.add_mul];congr 2;omega
    ·have h128:¬ y*128+b.toNat % 128<128:=by have:=y4 zO;omega
     unfold vuF;rw [if_neg h128];have e1:(y*128+b.toNat % 128) % 128+128=b.toNat:=zO;have e2:(y*128+b.toNat % 128) / 128=y:=zO;rw [e1,e2,UInt8.ofNat_toNat,y2];rfl
    ·have e2:64-7*i=(64-7*(i+1))+7:=by omega
     rw [e2,Nat.pow_add];omega
theorem yHV {l t:zB} {x:Nat} (h:ru l=.ok x t):l=vu x++t∧x<2 ^ 64:=by
 obtain ⟨y,y1,y2,y3,-⟩:=yZQ 10 l 0 0 x t h rfl zO;have:x=y:=by simpa using y1
 subst this;exact ⟨y2,y3⟩
theorem yQS (most:Nat) (s t:zB) (h:s.length≤most) (hl:s.length<2 ^ 64):rtx most (tx s++t)=.ok s t:=by unfold rtx tx;rw [zLd,yFz _ hl];dsimp only;rw [if_neg zO,if_neg (by rw [zLa];omega),List.take_left' rfl,List.drop_left' rfl]
theorem yLK {most:Nat} {l s t:zB} (h:rtx most l=.ok s t):l=tx s++t∧s.length≤most:=by
 unfold rtx at h;cases hr:ru l with
 |bad e=>rw [hr] at h;cases h
 |ok n t'=>
  rw [hr] at h;dsimp only at h;split at h
  ·cases h
  split at h
  ·cases h
  cases h;obtain ⟨e,-⟩:=yHV hr;have hl:(t'.take n).length=n:=by rw [zLg];omega
  refine ⟨?_,zO⟩;unfold tx;rw [hl,zLd,zLu,e]
section
variable {γ:Type} (f:γ→zB)
def yPE:List γ→γ→List γ
 |[],x=>[x]
 |y::r,x=>if Op.bytesLess (f y) (f x)=true then y::yPE r x else x::y::r
def atB:List γ→zB→Nat
 |[],_=>0
 |y::r,k=>if Op.bytesLess (f y) k=true then atB r k+1 else 0
def yIu (l:List γ) (k:zB):Bool:=l.any fun x=>decide (f x=k)
variable {f}
theorem hasB_true {l:List γ} {k:zB}:yIu f l k=true↔∃ x ∈ l,f x=k:=by simp [yIu]
theorem hasB_false {l:List γ} {k:zB}:yIu f l k=false↔∀ x ∈ l,f x≠k:=by simp [yIu]
theorem yJh (l:List γ) (k:zB):atB f l k≤l.length:=by
 induction l with
 |nil=>exact Nat.le_refl _
 |cons y r ih=>unfold atB;split <;> simp [ih]
theorem yIL (l:List γ) (x:γ):yPE f l x=l.take (atB f l (f x))++[x]++l.drop (atB f l (f x)):=by
 induction l with
 |nil=>rfl
 |cons y r ih=>
  unfold yPE atB;split
  ·rw [ih];rfl
  ·rfl
theorem mem_insB {l:List γ} {x y:γ}:y ∈ yPE f l x↔y=x∨y ∈ l:=by
 induction l with
 |nil=>simp [yPE]
 |cons z r ih=>
  unfold yPE;split
  ·rw [zLm,ih,zLm];constructor
   ·rintro (h|h|h)
    ·exact .inr (.inl h)
    ·exact .inl h
    ·exact .inr (.inr h)
   ·rintro (h|h|h)
    ·exact .inr (.inl h)
    ·exact .inl h
    ·exact .inr (.inr h)
  ·rw [zLm]
theorem yKn {l:List γ} {x:γ} (h:yDA f l) (hx:∀ y ∈ l,f y≠f x):yDA f (yPE f l x):=by
 induction l with
 |nil=>exact List.pairwise_cons.2 ⟨fun _ h=>absurd h zW,List.Pairwise.nil⟩
 |cons z r ih=>
  obtain ⟨h1,h2⟩:=List.pairwise_cons.1 h;unfold yPE;split
  ·rename_i hz;refine List.pairwise_cons.2 ⟨fun y hy=>?_,ih h2 fun w hw=>hx w (List.mem_cons_of_mem _ hw)⟩;rcases mem_insB.1 hy with hy|hy
   ·rw [hy];exact hz
   ·exact h1 y hy
  ·rename_i hz;have hxz:Op.bytesLess (f x) (f z)=true:=yKl (by simpa using hz) (hx z (List.mem_cons_self ..));refine List.pairwise_cons.2 ⟨fun y hy=>?_,h⟩;rcases zLm.1 hy with hy|hy
   ·rw [hy];exact hxz
   ·exact yG1 hxz (h1 y hy)
theorem yMV {l:List γ} (h:yDA f l) (k:zB):∀ (i:Nat) (y:γ),l[i]? = some y→(Op.bytesLess (f y) k=true↔i<atB f l k):=by
 induction l with
 |nil=>intro i y hy;simp at hy
 |cons z r ih=>
  obtain ⟨h1,h2⟩:=List.pairwise_cons.1 h;intro i y hy;unfold atB;by_cases hz:Op.bytesLess (f z) k=true
  ·rw [if_pos hz];cases i with
   |zero=>cases hy;simp [hz]
   |succ i=>rw [ih h2 i y hy];omega
  ·rw [if_neg hz];refine ⟨fun q=>?_,fun q=>absurd q (Nat.not_lt_zero _)⟩;cases i with
   |zero=>cases hy;exact absurd q hz
   |succ i=>
    have:=h1 y (zLk hy);exact absurd (yG1 this q) hz
theorem yKo {l:List γ} (h:yDA f l) (k:zB):yIu f l k=true↔∃ y,l[atB f l k]? = some y∧f y=k:=by
 rw [hasB_true];constructor
 ·rintro ⟨x,hx,rfl⟩
  obtain ⟨i,hi⟩:=List.mem_iff_getElem?.1 hx;have q:=yMV h (f x) i x hi;rw [yDi] at q;have gu:atB f l (f x)≤i:=by
   by_cases c:i<atB f l (f x)
   ·exact absurd (q.2 c) zX
   ·omega
  by_cases c:atB f l (f x)=i
  ·rw [c];exact ⟨x,hi,rfl⟩
  ·have kz:i<l.length:=(zLc.1 hi).1;have hlt:atB f l (f x)<l.length:=zO;have hb:=zLb hlt;have q2:=yMV h (f x) _ _ hb;have bX:Op.bytesLess (f l[atB f l (f x)]) (f x)=false:=by
    cases e:Op.bytesLess (f l[atB f l (f x)]) (f x) with
    |false=>rfl
    |true=>exact absurd (q2.1 e) (Nat.lt_irrefl _)
   have hp:=(List.pairwise_iff_getElem.1 h) (atB f l (f x)) i hlt kz zO;rw [(zLc.1 hi).2] at hp;rw [hp] at bX;cases bX
 ·rintro ⟨y,hy,e⟩
  exact ⟨y,zLk hy,e⟩
theorem yPF {l:List γ} (h:yDA f l) {x y:γ} (hx:x ∈ l) (hy:y ∈ l) (e:f x=f y):x=y:=by
 induction l with
 |nil=>simp at hx
 |cons z r ih=>
  obtain ⟨h1,h2⟩:=List.pairwise_cons.1 h;rcases zLm.1 hx with a|a
  ·rcases zLm.1 hy with b|b
   ·rw [a,b]
   ·have:=h1 y b;rw [← a,e,yDi] at this;cases this
  ·rcases zLm.1 hy with b|b
   ·have:=h1 x a;rw [← b,e,yDi] at this;cases this
   ·exact ih h2 a b
end
structure BOp where
 del:Bool
 key:zB
 val:zB
deriving DecidableEq
def BOp.nrm (o:BOp):BOp:=⟨o.del,o.key,if o.del then [] else o.val⟩
theorem yZR (o:BOp):o.nrm.nrm=o.nrm:=by obtain ⟨d,k,v⟩:=o;cases d <;> rfl
def yBE:List BOp→zB→Option BOp
 |[],_=>none
 |o::r,k=>(yBE r k).or (if o.key=k then some o.nrm else none)
theorem yMW (a b:List BOp) (k:zB):yBE (a++b) k=(yBE b k).or (yBE a k):=by
 induction a with
 |nil=>simp [yBE]
 |cons o a ih=>rw [List.cons_append,yBE,ih,yBE,Option.or_assoc]
theorem ySo (a:List BOp) (o:BOp) (k:zB):yBE (a++[o]) k=if o.key=k then some o.nrm else yBE a k:=by rw [yMW];by_cases e:o.key=k <;> simp [yBE,e]
theorem yEs {l:List BOp} {k:zB} {x:BOp} (h:yBE l k=some x):x.key=k∧x.nrm=x:=by
 induction l with
 |nil=>cases h
 |cons o r ih=>
  rw [yBE] at h;cases e:yBE r k with
  |some y=>rw [e] at h;cases h;exact ih e
  |none=>
   rw [e,Option.none_or] at h;split at h
   ·rename_i ek;cases h;exact ⟨ek,yZR o⟩
   ·cases h
def yAR:List BOp→List BOp
 |[]=>[]
 |o::r=>if yIu BOp.key (yAR r) o.key=true then yAR r else yPE BOp.key (yAR r) o.nrm
theorem yLL (l:List BOp):yDA BOp.key (yAR l)∧∀ x,x ∈ yAR l↔yBE l x.key=some x:=by
 induction l with
 |nil=>exact ⟨List.Pairwise.nil,fun x=>by simp [yAR,yBE]⟩
 |cons o r ih=>
  obtain ⟨h1,h2⟩:=ih;unfold yAR;split
  ·rename_i hh;refine ⟨h1,fun x=>?_⟩;rw [h2,yBE];obtain ⟨y,hy,ey⟩:=hasB_true.1 hh;rw [h2] at hy;cases e:yBE r x.key with
   |some z=>rfl
   |none=>
    by_cases c:o.key=x.key
    ·rw [← c,← ey,hy] at e;cases e
    ·simp [c]
  ·rename_i hh;have hf:=hasB_false.1 (by simpa using hh);have hn:yBE r o.key=none:=by
    cases e:yBE r o.key with
    |none=>rfl
    |some z=>
     have hz:=(yEs e).1;have:=(h2 z).2 (by rw [hz];exact e);exact absurd hz (hf z this)
   refine ⟨yKn h1 fun y hy=>hf y hy,fun x=>?_⟩;rw [mem_insB,h2,yBE];by_cases c:o.key=x.key
   ·rw [← c,hn,if_pos rfl];simp [eq_comm]
   ·rw [if_neg c,Option.or_none];constructor
    ·rintro (h|h)
     ·exact absurd (by rw [h];rfl) c
     ·exact h
    ·exact .inr
theorem yEH (l:List BOp):yDA BOp.key (yAR l):=(yLL l).1
theorem yKp (l:List BOp) (x:BOp):x ∈ yAR l↔yBE l x.key=some x:=(yLL l).2 x
theorem yN5 {l:List BOp} {x:BOp} (h:x ∈ yAR l):x.nrm=x:=(yEs ((yKp l x).1 h)).2
theorem yXe {l r:List BOp} (hr:yDA BOp.key r) (h:∀ x,x ∈ r↔yBE l x.key=some x):r=yAR l:=yKm hr (yEH l) fun x=>(h x).trans (yKp l x).symm
theorem yMX {l:List BOp} (hl:yDA BOp.key l) (hn:∀ x ∈ l,x.nrm=x) (k:zB):∀ x,yBE l k=some x↔x ∈ l∧x.key=k:=by
 induction l with
 |nil=>intro x;simp [yBE]
 |cons o r ih=>
  obtain ⟨h1,h2⟩:=List.pairwise_cons.1 hl;have ih:=fun x=>ih h2 (fun y hy=>hn y (List.mem_cons_of_mem _ hy)) x;intro x;rw [yBE];by_cases e:o.key=k
  ·have:yBE r k=none:=by
    cases q:yBE r k with
    |none=>rfl
    |some z=>
     have hz:=(yEs q).1;have hm:z ∈ r:=((ih z).1 q).1;have:=h1 z hm;rw [e,hz,yDi] at this;cases this
   rw [this,if_pos e,Option.none_or,hn o (List.mem_cons_self ..)];constructor
   ·intro h;cases h;exact ⟨List.mem_cons_self ..,e⟩
   ·rintro ⟨h,hk⟩
    rw [yPF hl h (List.mem_cons_self ..) (hk.trans e.symm)]
  ·rw [if_neg e,Option.or_none,ih,zLm];constructor
   ·rintro ⟨a,b⟩;exact ⟨.inr a,b⟩
   ·rintro ⟨a|a,b⟩
    ·rw [a] at b;exact absurd b e
    ·exact ⟨a,b⟩
abbrev Rows:=List (zB × zB)
def RisR (r:Rows):Prop:=yDA Prod.fst r
theorem RisR.nodup {r:Rows} (h:RisR r):(r.map (·.1)).Nodup:=List.pairwise_map.2 (h.imp fun {a b} q e=>by rw [e,yDi] at q;cases q)
theorem yFA {r:Rows} (h:RisR r) (k v:zB):(k,v) ∈ r↔lk r k=some v:=⟨fun q=>ySk h.nodup q,yQP⟩
theorem yGH {a b:Rows} (ha:RisR a) (hb:RisR b) (h:∀ k,lk a k=lk b k):a=b:=yKm ha hb fun ⟨k,v⟩=>by rw [yFA ha,yFA hb,h]
def yHW (r:Rows) (k v:zB):Rows:=if yIu Prod.fst r k=true then r.map (fun p=>if p.1=k then (k,v) else p) else yPE Prod.fst r (k,v)
def yEI (r:Rows) (o:BOp):Rows:=if o.del then yHn r o.key else yHW r o.key o.val
def yAP (r:Rows) (ops:List BOp):Rows:=ops.foldl yEI r
theorem yUO {r:Rows} {k:zB}:yIu Prod.fst r k=(lk r k).isSome:=by
 cases e:lk r k with
 |none=>exact hasB_false.2 (lk_none.1 e)
 |some v=>exact hasB_true.2 ⟨(k,v),yQP e,rfl⟩
theorem yDb {r:Rows} (h:RisR r) (k v:zB):RisR (yHW r k v):=by
 unfold yHW;split
 ·unfold RisR yDA;rw [List.pairwise_map];refine h.imp fun {a b} q=>?_;have e:∀ p:zB × zB,(if p.1=k then (k,v) else p).1=p.1:=fun p=>by
   split
   ·rename_i e;exact e.symm
   ·rfl
  rw [e,e];exact q
 ·rename_i hh;exact yKn h fun y hy=>hasB_false.1 (by simpa using hh) y hy
theorem yMY {r:Rows} (h:RisR r) (k:zB):RisR (yHn r k):=List.Pairwise.sublist List.filter_sublist h
theorem yIM {r:Rows} (h:RisR r) (o:BOp):RisR (yEI r o):=by
 unfold yEI;split
 ·exact yMY h _
 ·exact yDb h _ _
theorem yDj {r:Rows} (h:RisR r) (ops:List BOp):RisR (yAP r ops):=by
 induction ops generalizing r with
 |nil=>exact h
 |cons o ops ih=>exact ih (yIM h o)
theorem yER {r:Rows} (h:RisR r) (k v b:zB):lk (yHW r k v) b=if b=k then some v else lk r b:=by
 have hp:=yDb h k v;have hm:∀ u,lk (yHW r k v) b=some u↔(if b=k then some v else lk r b)=some u:=fun u=>by
  rw [← yFA hp];unfold yHW;split
  ·rename_i hh;rw [List.mem_map];obtain ⟨p,jF,eQ⟩:=hasB_true.1 hh;constructor
   ·rintro ⟨q,hq,e⟩
    split at e
    ·cases e;rw [if_pos rfl]
    ·rename_i ao;subst e;rw [if_neg ao];exact (yFA h _ _).1 hq
   ·intro e;split at e
    ·rename_i hb;cases e;exact ⟨p,jF,by rw [if_pos eQ,hb]⟩
    ·rename_i hb;exact ⟨(b,u),(yFA h _ _).2 e,by rw [if_neg hb]⟩
  ·rename_i hh;rw [mem_insB,yFA h];have hn:lk r k=none:=by
    have:yIu Prod.fst r k=false:=by simpa using hh
    rw [yUO] at this;cases e:lk r k with
    |none=>rfl
    |some _=>rw [e] at this;cases this
   by_cases hb:b=k
   ·subst hb;rw [if_pos rfl,hn];simp [eq_comm]
   ·rw [if_neg hb];simp [hb]
 cases e:lk (yHW r k v) b with
 |some u=>exact ((hm u).1 e).symm
 |none=>
  cases e':(if b=k then some v else lk r b) with
  |none=>rfl
  |some u=>rw [(hm u).2 e'] at e;cases e
theorem yUP {r:Rows} (h:RisR r) (o:BOp) (k:zB):lk (yEI r o) k=if o.key=k then (if o.del then none else some o.val) else lk r k:=by
 unfold yEI;cases hd:o.del with
 |true=>
  rw [if_pos rfl,yYO];by_cases e:k=o.key
  ·rw [if_pos e,if_pos e.symm];rfl
  ·rw [if_neg e,if_neg fun q=>e q.symm]
 |false=>
  rw [if_neg zX,yER h];by_cases e:k=o.key
  ·rw [if_pos e,if_pos e.symm];rfl
  ·rw [if_neg e,if_neg fun q=>e q.symm]
def xCT (r:Rows) (ops:List BOp) (k:zB):Option zB:=match yBE ops k with
 |some o=>if o.del then none else some o.val
 |none=>lk r k
theorem yN6 {r:Rows} (h:RisR r) (ops:List BOp) (k:zB):lk (yAP r ops) k=xCT r ops k:=by
 induction ops generalizing r with
 |nil=>rfl
 |cons o ops ih=>
  show lk (yAP (yEI r o) ops) k=_;rw [ih (yIM h o)];unfold xCT;rw [yBE];cases e:yBE ops k with
  |some x=>rfl
  |none=>
   rw [Option.none_or];dsimp only;rw [yUP h];by_cases c:o.key=k
   ·rw [if_pos c,if_pos c];unfold BOp.nrm;cases o.del <;> rfl
   ·rw [if_neg c,if_neg c]
theorem yN7 (l:List BOp) (k:zB):yBE (yAR l) k=yBE l k:=by
 have hm:∀ x,yBE (yAR l) k=some x↔yBE l k=some x:=fun x=>by
  rw [yMX (yEH l) (fun _ q=>yN5 q),yKp];constructor
  ·rintro ⟨a,b⟩;rw [← b];exact a
  ·intro a;have:=(yEs a).1;rw [this];exact ⟨a,rfl⟩
 cases e:yBE (yAR l) k with
 |some x=>exact ((hm x).1 e).symm
 |none=>
  cases e':yBE l k with
  |none=>rfl
  |some x=>rw [(hm x).2 e'] at e;cases e
theorem yPG {r:Rows} (h:RisR r) (ops:List BOp):yAP r (yAR ops)=yAP r ops:=
 yGH (yDj h _) (yDj h _) fun k=>by rw [yN6 h,yN6 h];unfold xCT;rw [yN7]
def btw:Nat→Rows→Rows→List BOp
 |0,_,_=>[]
 |_+1,[],[]=>[]
 |n+1,p::a,[]=>⟨true,p.1,[]⟩::btw n a []
 |n+1,[],q::b=>⟨false,q.1,q.2⟩::btw n [] b
 |n+1,p::a,q::b=>if Op.bytesLess p.1 q.1=true then ⟨true,p.1,[]⟩::btw n a (q::b) else if Op.bytesLess q.1 p.1=true then ⟨false,q.1,q.2⟩::btw n (p::a) b
  else if p.2=q.2 then btw n a b else ⟨false,q.1,q.2⟩::btw n a b
theorem yPH (p:zB × zB) (r:Rows) (k:zB):lk (p::r) k=if p.1=k then some p.2 else lk r k:=rfl
theorem yXf {p:zB × zB} {r:Rows} (h:RisR (p::r)):RisR r∧(∀ q ∈ r,Op.bytesLess p.1 q.1=true):=⟨(List.pairwise_cons.1 h).2,(List.pairwise_cons.1 h).1⟩
theorem yHX {r:Rows} {k:zB} (h:∀ q ∈ r,Op.bytesLess k q.1=true):lk r k=none:=lk_none.2 fun p hp e=>by have:=h p hp;rw [e,yDi] at this;cases this
def xCU (a b:Rows):List BOp:=btw (a.length+b.length) a b
def xDv (a b:Rows):List BOp:=(a.filter fun p=>(lk b p.1).isNone).map fun p=>⟨true,p.1,[]⟩
def xDn (a b:Rows):List BOp:=(b.filter fun p=>decide (lk a p.1≠some p.2)).map fun p=>⟨false,p.1,p.2⟩
inductive Tr where
 |nil
 |node (l:Tr) (k v:zB) (r:Tr) (h s:Nat)
namespace Tr
def tall:Tr→Nat
 |nil=>0
 |node _ _ _ _ h _=>h
def cnt:Tr→Nat
 |nil=>0
 |node _ _ _ _ _ s=>s
def rows:Tr→Rows
 |nil=>[]
 |node l k v r _ _=>l.rows++(k,v)::r.rows
def join (l:Tr) (k v:zB) (r:Tr):Tr:=node l k v r (max l.tall r.tall+1) (l.cnt+r.cnt+1)
def level (l:Tr) (k v:zB) (r:Tr):Tr:=
 if r.tall+1<l.tall then match l with
  |node ll lk lv lr _ _=>if lr.tall≤ll.tall then join ll lk lv (join lr k v r) else match lr with
   |node ml mk mv mr _ _=>join (join ll lk lv ml) mk mv (join mr k v r)
   |nil=>nil
  |nil=>nil
 else if l.tall+1<r.tall then match r with
  |node rl rk rv rr _ _=>if rl.tall≤rr.tall then join (join l k v rl) rk rv rr else match rl with
   |node ml mk mv mr _ _=>join (join l k v ml) mk mv (join mr rk rv rr)
   |nil=>nil
  |nil=>nil
 else join l k v r
def get:Tr→zB→Option zB
 |nil,_=>none
 |node l k v r _ _,x=>if Op.bytesLess x k=true then l.get x else if Op.bytesLess k x=true then r.get x else some v
def put:Tr→zB→zB→Tr
 |nil,x,y=>join nil x y nil
 |node l k v r _ _,x,y=>if Op.bytesLess x k=true then level (l.put x y) k v r else if Op.bytesLess k x=true then level l k v (r.put x y) else join l x y r
def first:Tr→zB × zB
 |nil=>([],[])
 |node nil k v _ _ _=>(k,v)
 |node l _ _ _ _ _=>l.first
def remove:Tr→zB→Tr
 |nil,_=>nil
 |node l k v r _ _,x=>if Op.bytesLess x k=true then level (l.remove x) k v r else if Op.bytesLess k x=true then level l k v (r.remove x) else match l,r with
  |nil,r=>r
  |l,nil=>l
  |l,r=>level l r.first.1 r.first.2 (r.remove r.first.1)
def Ok:Tr→Prop
 |nil=>True
 |node l _ _ r h s=>l.Ok∧r.Ok∧h=max l.tall r.tall+1∧s=l.cnt+r.cnt+1∧l.tall≤r.tall+1∧r.tall≤l.tall+1
theorem t0:nil.tall=0:=rfl
theorem tn (l:Tr) (k v:zB) (r:Tr) (h s:Nat):(node l k v r h s).tall=h:=rfl
theorem rn (l:Tr) (k v:zB) (r:Tr) (h s:Nat):(node l k v r h s).rows=l.rows++(k,v)::r.rows:=rfl
theorem jt (l:Tr) (k v:zB) (r:Tr):(join l k v r).tall=max l.tall r.tall+1:=rfl
theorem jr (l:Tr) (k v:zB) (r:Tr):(join l k v r).rows=l.rows++(k,v)::r.rows:=rfl
theorem cnt_rows:∀ {t:Tr},t.Ok→t.cnt=t.rows.length
 |nil,_=>rfl
 |node l k v r h s,⟨h1,h2,_,h4,_⟩=>by rw [rows,zLa,zLj,← cnt_rows h1,← cnt_rows h2];show s=_;omega
theorem tall_cnt:∀ {t:Tr},t.Ok→t.tall≤t.cnt
 |nil,_=>Nat.le_refl _
 |node l k v r a b,⟨h1,h2,h3,h4,_⟩=>by have:=tall_cnt h1;have:=tall_cnt h2;show a≤b;omega
theorem yUQ (l:Tr) (k v:zB) (r:Tr):(join l k v r).rows=l.rows++(k,v)::r.rows:=rfl
theorem yDG {l r:Tr} {k v:zB} (hl:l.Ok) (hr:r.Ok) (h1:l.tall≤r.tall+1) (h2:r.tall≤l.tall+1):(join l k v r).Ok:=⟨hl,hr,rfl,rfl,h1,h2⟩
theorem yHY {l r:Tr} {k v:zB} (hl:l.Ok) (hr:r.Ok) (h1:l.tall≤r.tall+2) (h2:r.tall≤l.tall+2) :(level l k v r).Ok∧(level l k v r).rows=l.rows++(k,v)::r.rows∧max l.tall r.tall≤(level l k v r).tall∧(level l k v r).tall≤max l.tall r.tall+1∧(l.tall≤r.tall+1→r.tall≤l.tall+1→(level l k v r).tall=max l.tall r.tall+1):=by
 unfold level;split
 ·rename_i c;cases l with
  |nil=>simp only [t0] at c;omega
  |node ll lk lv lr lh ls=>
   obtain ⟨a1,a2,a3,a4,a5,a6⟩:=hl;simp only [tn] at c h1 h2;dsimp only;split
   ·rename_i c2;refine ⟨yDG a1 (yDG a2 hr zO zO) ?_ ?_,?_,?_,?_,?_⟩ <;> (first|simp only [jt,tn];omega|(simp only [jr,rn,zLd,List.cons_append]))
   ·rename_i c2;cases lr with
    |nil=>simp only [t0] at c2;omega
    |node ml mk mv mr mh ms=>
     obtain ⟨b1,b2,b3,b4,b5,b6⟩:=a2;simp only [tn] at c2 a3 a5 a6;refine ⟨yDG (yDG a1 b1 zO zO) (yDG b2 hr zO zO) ?_ ?_,?_,?_,?_,?_⟩ <;> (first|simp only [jt,tn];omega|(simp only [jr,rn,zLd,List.cons_append]))
 ·rename_i c;split
  ·rename_i c';cases r with
   |nil=>simp only [t0] at c';omega
   |node rl rk rv rr rh rs=>
    obtain ⟨a1,a2,a3,a4,a5,a6⟩:=hr;simp only [tn] at c c' h1 h2;dsimp only;split
    ·rename_i c2;refine ⟨yDG (yDG hl a1 zO zO) a2 ?_ ?_,?_,?_,?_,?_⟩ <;> (first|simp only [jt,tn];omega|(simp only [jr,rn,zLd,List.cons_append]))
    ·rename_i c2;cases rl with
     |nil=>simp only [t0] at c2;omega
     |node ml mk mv mr mh ms=>
      obtain ⟨b1,b2,b3,b4,b5,b6⟩:=a1;simp only [tn] at c2 a3 a5 a6;refine ⟨yDG (yDG hl b1 zO zO) (yDG b2 a2 zO zO) ?_ ?_,?_,?_,?_,?_⟩ <;> (first|simp only [jt,tn];omega|(simp only [jr,rn,zLd,List.cons_append]))
  ·refine ⟨yDG hl hr zO zO,rfl,?_,?_,fun _ _=>?_⟩ <;> first|simp only [jt];done|(simp only [jt];omega)
end Tr
theorem yXg {a b:zB} (h:Op.bytesLess a b=true):a≠b:=fun e=>by rw [e,yDi] at h;cases h
theorem ris_mid {A B:Rows} {p:zB × zB}:RisR (A++p::B)↔RisR A∧RisR B∧(∀ a ∈ A,Op.bytesLess a.1 p.1=true)∧(∀ b ∈ B,Op.bytesLess p.1 b.1=true):=by
 unfold RisR yDA;rw [List.pairwise_append,List.pairwise_cons];constructor
 ·rintro ⟨h1,⟨h2,h3⟩,h4⟩
  exact ⟨h1,h3,fun a ha=>h4 a ha p (List.mem_cons_self ..),h2⟩
 ·rintro ⟨h1,h2,h3,h4⟩
  refine ⟨h1,⟨h4,h2⟩,fun a ha b hb=>?_⟩;rcases zLm.1 hb with e|e
  ·rw [e];exact h3 a ha
  ·exact yG1 (h3 a ha) (h4 b e)
theorem yGI {r:Rows} {k:zB} (h:∀ q ∈ r,Op.bytesLess q.1 k=true):lk r k=none:=lk_none.2 fun p hp e=>by have:=h p hp;rw [e,yDi] at this;cases this
theorem yHZ {A B:Rows} {p:zB × zB} (h:RisR (A++p::B)) (k:zB):lk (A++p::B) k=if Op.bytesLess k p.1=true then lk A k else if Op.bytesLess p.1 k=true then lk B k else some p.2:=by
 obtain ⟨_,_,h3,h4⟩:=ris_mid.1 h;rw [yKk,yPH];by_cases c:Op.bytesLess k p.1=true
 ·have e1:lk B k=none:=yHX fun q hq=>yG1 c (h4 q hq);rw [if_pos c,if_neg (fun e=>yXg c e.symm),e1,Option.or_none]
 ·rw [if_neg c];by_cases c2:Op.bytesLess p.1 k=true
  ·have e1:lk A k=none:=yGI fun q hq=>yG1 (h3 q hq) c2;rw [if_pos c2,if_neg (yXg c2),e1,Option.none_or]
  ·have e:p.1=k:=by
    by_cases q:p.1=k
    ·exact q
    ·rcases yN4 _ _ q with d|d
     ·exact absurd d c2
     ·exact absurd d c
   have e1:lk A k=none:=yGI fun q hq=>by rw [← e];exact h3 q hq
   rw [if_neg c2,if_pos e,e1,Option.none_or]
theorem yQT {r:Rows} (h:RisR r) {k v:zB} {q:zB × zB} (hq:q ∈ yHW r k v):q.1=k∨∃ u,(q.1,u) ∈ r:=by
 have:=(yFA (yDb h k v) q.1 q.2).1 hq;rw [yER h] at this;split at this
 ·rename_i e;exact .inl e
 ·exact .inr ⟨_,yQP this⟩
theorem xBD {A B:Rows} {p:zB × zB} {k:zB} (v:zB) (h:RisR (A++p::B)) (c:Op.bytesLess k p.1=true):yHW (A++p::B) k v=yHW A k v++p::B:=by
 obtain ⟨h1,h2,h3,h4⟩:=ris_mid.1 h;have hr:RisR (yHW A k v++p::B):=ris_mid.2 ⟨yDb h1 k v,h2,fun a ha=>by
  rcases yQT h1 ha with e|⟨u,hu⟩
  ·rw [e];exact c
  ·exact h3 (a.1,u) hu,h4⟩
 refine yGH (yDb h k v) hr fun j=>?_;rw [yER h,yHZ hr,yHZ h,yER h1];by_cases e:j=k
 ·rw [if_pos e,e,if_pos c,if_pos rfl]
 ·rw [if_neg e,if_neg e]
theorem xBE {A B:Rows} {p:zB × zB} {k:zB} (v:zB) (h:RisR (A++p::B)) (c:Op.bytesLess p.1 k=true):yHW (A++p::B) k v=A++p::yHW B k v:=by
 obtain ⟨h1,h2,h3,h4⟩:=ris_mid.1 h;have hr:RisR (A++p::yHW B k v):=ris_mid.2 ⟨h1,yDb h2 k v,h3,fun a ha=>by
  rcases yQT h2 ha with e|⟨u,hu⟩
  ·rw [e];exact c
  ·exact h4 (a.1,u) hu⟩
 refine yGH (yDb h k v) hr fun j=>?_;rw [yER h,yHZ hr,yHZ h,yER h2];by_cases e:j=k
 ·rw [if_pos e,e,if_neg (by rw [yGb c];decide),if_pos c,if_pos rfl]
 ·rw [if_neg e,if_neg e]
theorem yYP {A B:Rows} {k u:zB} (v:zB) (h:RisR (A++(k,u)::B)):yHW (A++(k,u)::B) k v=A++(k,v)::B:=by
 obtain ⟨h1,h2,h3,h4⟩:=ris_mid.1 h;have hr:RisR (A++(k,v)::B):=ris_mid.2 ⟨h1,h2,h3,h4⟩;refine yGH (yDb h k v) hr fun j=>?_;rw [yER h,yHZ hr,yHZ h];by_cases e:j=k
 ·rw [if_pos e,e,if_neg (by rw [yDi];decide),if_neg (by rw [yDi];decide)]
 ·rw [if_neg e];dsimp only;split
  ·rfl
  split
  ·rfl
  ·rename_i c c2;rcases yN4 _ _ e with d|d
   ·exact absurd d c
   ·exact absurd d c2
theorem yDr {r:Rows} {k:zB} (h:lk r k=none):yHn r k=r:=List.filter_eq_self.2 fun p hp=>by simpa using lk_none.1 h p hp
theorem yH0 (A B:Rows) (p:zB × zB) (k:zB):yHn (A++p::B) k=yHn A k++(if p.1=k then yHn B k else p::yHn B k):=by unfold yHn;rw [List.filter_append,List.filter_cons];by_cases e:p.1=k <;> simp [e]
namespace Tr
theorem get_rows:∀ {t:Tr},RisR t.rows→∀ k,t.get k=lk t.rows k
 |nil,_,_=>rfl
 |node l k v r a b,h,x=>by obtain ⟨h1,h2,_,_⟩:=ris_mid.1 h;rw [rows,yHZ h,get,get_rows h1,get_rows h2]
theorem put_ok:∀ {t:Tr},t.Ok→RisR t.rows→∀ k v,(t.put k v).Ok∧(t.put k v).rows=yHW t.rows k v∧t.tall≤(t.put k v).tall∧(t.put k v).tall≤t.tall+1
 |nil,_,_,k,v=>⟨yDG trivial trivial zX zX,rfl,zLA _,Nat.le_refl _⟩
 |node l k v r a b,⟨o1,o2,o3,o4,o5,o6⟩,h,x,y=>by
  obtain ⟨h1,h2,h3,h4⟩:=ris_mid.1 h;unfold put;split
  ·rename_i c;obtain ⟨i1,i2,i3,i4⟩:=put_ok o1 h1 x y;obtain ⟨q1,q2,q3,q4,q5⟩:=yHY (k:=k) (v:=v) i1 o2 zO zO;refine ⟨q1,?_,?_,?_⟩
   ·rw [q2,i2,rows,xBD _ h c]
   ·show a≤_;by_cases e:(l.put x y).tall≤r.tall+1
    ·have:=q5 e zO;omega
    ·omega
   ·show _≤a+1;omega
  ·rename_i c;split
   ·rename_i c2;obtain ⟨i1,i2,i3,i4⟩:=put_ok o2 h2 x y;obtain ⟨q1,q2,q3,q4,q5⟩:=yHY (k:=k) (v:=v) o1 i1 zO zO;refine ⟨q1,?_,?_,?_⟩
    ·rw [q2,i2,rows,xBE _ h c2]
    ·show a≤_;by_cases e:(r.put x y).tall≤l.tall+1
     ·have:=q5 zO e;omega
     ·omega
    ·show _≤a+1;omega
   ·rename_i c2;have e:x=k:=by
     by_cases q:x=k
     ·exact q
     ·rcases yN4 _ _ q with d|d
      ·exact absurd d c
      ·exact absurd d c2
    subst e;refine ⟨yDG o1 o2 o5 o6,?_,?_,?_⟩
    ·rw [yUQ,rows,yYP _ h]
    ·show a≤max l.tall r.tall+1;omega
    ·show max l.tall r.tall+1≤a+1;omega
theorem first_rows:∀ {t:Tr},t≠nil→∃ R,t.rows=t.first::R
 |nil,h=>absurd rfl h
 |node nil k v r _ _,_=>⟨r.rows,rfl⟩
 |node (node l k v r a b) k' v' r' a' b',_=>by obtain ⟨R,hR⟩:=first_rows (t:=node l k v r a b) (fun e=>by cases e);refine ⟨R++(k',v')::r'.rows,?_⟩;rw [rows,hR];rfl
theorem remove_ok:∀ {t:Tr},t.Ok→RisR t.rows→∀ k,(lk t.rows k).isSome=true→(t.remove k).Ok∧(t.remove k).rows=yHn t.rows k∧(t.remove k).tall≤t.tall∧t.tall≤(t.remove k).tall+1
 |nil,_,_,k,h=>by cases h
 |node l k v r a b,⟨o1,o2,o3,o4,o5,o6⟩,h,x,hx=>by
  obtain ⟨h1,h2,h3,h4⟩:=ris_mid.1 h;rw [rows,yHZ h] at hx;unfold remove;split
  ·rename_i c;rw [if_pos c] at hx;obtain ⟨i1,i2,i3,i4⟩:=remove_ok o1 h1 x hx;obtain ⟨q1,q2,q3,q4,q5⟩:=yHY (k:=k) (v:=v) i1 o2 zO zO;refine ⟨q1,?_,?_,?_⟩
   ·rw [q2,i2,rows,yH0,if_neg (fun e=>yXg c e.symm),yDr (r:=r.rows) (yHX fun q hq=>yG1 c (h4 q hq))]
   ·show _≤a;by_cases e:r.tall≤(l.remove x).tall+1
    ·have:=q5 zO e;omega
    ·omega
   ·show a≤_;by_cases e:r.tall≤(l.remove x).tall+1
    ·have:=q5 zO e;omega
    ·omega
  ·rename_i c;rw [if_neg c] at hx;split
   ·rename_i c2;rw [if_pos c2] at hx;obtain ⟨i1,i2,i3,i4⟩:=remove_ok o2 h2 x hx;obtain ⟨q1,q2,q3,q4,q5⟩:=yHY (k:=k) (v:=v) o1 i1 zO zO;refine ⟨q1,?_,?_,?_⟩
    ·rw [q2,i2,rows,yH0,if_neg (fun e=>yXg c2 e),yDr (r:=l.rows) (yGI fun q hq=>yG1 (h3 q hq) c2)]
    ·show _≤a;by_cases e:l.tall≤(r.remove x).tall+1
     ·have:=q5 e zO;omega
     ·omega
    ·show a≤_;by_cases e:l.tall≤(r.remove x).tall+1
     ·have:=q5 e zO;omega
     ·omega
   ·rename_i c2;have e:k=x:=by
     by_cases q:k=x
     ·exact q
     ·rcases yN4 _ _ q with d|d
      ·exact absurd d c2
      ·exact absurd d c
    subst e;have dl:yHn l.rows k=l.rows:=yDr (yGI h3);have dr:yHn r.rows k=r.rows:=yDr (yHX h4);have kP:yHn (l.rows++(k,v)::r.rows) k=l.rows++r.rows:=by rw [yH0,if_pos rfl,dl,dr]
    split
    ·refine ⟨o2,?_,?_,?_⟩
     ·rw [rows,kP];rfl
     ·show _≤a;omega
     ·show a≤_;simp only [t0] at o3 o5 o6;omega
    ·refine ⟨o1,?_,?_,?_⟩
     ·rw [rows,kP];simp [rows]
     ·show _≤a;omega
     ·show a≤_;simp only [t0] at o3 o5 o6 ⊢;omega
    ·rename_i hl hr;obtain ⟨R,hR⟩:=first_rows hr;have hf:(lk r.rows r.first.1).isSome=true:=by rw [hR,yPH,if_pos rfl];rfl
     obtain ⟨i1,i2,i3,i4⟩:=remove_ok o2 h2 r.first.1 hf;obtain ⟨q1,q2,q3,q4,q5⟩:=yHY (k:=r.first.1) (v:=r.first.2) o1 i1 zO zO;refine ⟨q1,?_,?_,?_⟩
     ·rw [q2,i2,rows,kP,hR];congr 1;have hn:yHn R r.first.1=R:=by rw [hR] at h2;exact yDr (yHX (yXf h2).2)
      have:yHn (r.first::R) r.first.1=R:=by have:=yH0 [] R r.first r.first.1;rw [if_pos rfl,hn] at this;exact this
      rw [this]
     ·show _≤a;by_cases e:l.tall≤(r.remove r.first.1).tall+1
      ·have:=q5 e zO;omega
      ·omega
     ·show a≤_;by_cases e:l.tall≤(r.remove r.first.1).tall+1
      ·have:=q5 e zO;omega
      ·omega
end Tr
end Go.Proofs.YtoipmnikdiogcaaGreatDoor
