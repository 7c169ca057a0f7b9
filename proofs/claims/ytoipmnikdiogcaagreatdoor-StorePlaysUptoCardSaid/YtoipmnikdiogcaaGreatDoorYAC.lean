/-
  Mem, Sep, Sx.
-/
import Derived.WalkKit
import Derived.Deep.MidRow
import Derived.Deep.Quiet
import Derived.OrdersIn
import Derived.TacticsIn
import Derived.RangeFuncRecord
import Derived.Test.YtoipmnikdiogcaaGreatDoorY00
set_option maxHeartbeats 64000000
namespace Go.Proofs.YtoipmnikdiogcaaGreatDoor
open Go Go.RowKit
structure Fr (F:Nat→Prop) (w w':World):Prop where
 os:w'.os=w.os
 tape:w'.tape=w.tape
 output:w'.output=w.output
 size:w.heap.size≤w'.heap.size
 block:∀ k,k<w.heap.size→¬ F k→w'.heap[k]? = w.heap[k]?
def noB:Nat→Prop:=fun _=>False
theorem Fr.refl (F:Nat→Prop) (w:World):Fr F w w:=⟨rfl,rfl,rfl,Nat.le_refl _,fun _ _ _=>rfl⟩
theorem Fr.trans {F G:Nat→Prop} {a b c:World} (h:Fr F a b) (k:Fr G b c) (hG:∀ i,G i→F i∨a.heap.size≤i):Fr F a c:=
 ⟨k.os.trans h.os,k.tape.trans h.tape,k.output.trans h.output,Nat.le_trans h.size k.size,fun i hi hF=>
  (k.block i (Nat.lt_of_lt_of_le hi h.size) (fun g=>by rcases hG i g with q|q;exact hF q;omega)).trans (h.block i hi hF)⟩
theorem Fr.mono {F G:Nat→Prop} {a b:World} (h:Fr F a b) (hG:∀ i,F i→G i):Fr G a b:=
 ⟨h.os,h.tape,h.output,h.size,fun i hi hn=>h.block i hi (fun q=>hn (hG i q))⟩
theorem Fr.trans' {F:Nat→Prop} {a b c:World} (h:Fr F a b) (k:Fr F b c):Fr F a c:=h.trans k fun _ q=>.inl q
theorem Fr.drew {F:Nat→Prop} {a w:World} (h:Fr F a w):Fr F a w.drew:=⟨h.os,h.tape,h.output,h.size,h.block⟩
theorem Fr.drewN {F:Nat→Prop} {a w:World} (h:Fr F a w) (n:Nat):Fr F a (w.drewN n):=⟨h.os,h.tape,h.output,h.size,h.block⟩
theorem Fr.alloc {F:Nat→Prop} {a w:World} (h:Fr F a w) (o:Obj):Fr F a (w.alloc o):=
 h.trans (G:=noB) ⟨rfl,rfl,rfl,by simp,fun k hk _=>Below.heap_alloc _ _ _ hk⟩ (fun _ q=>q.elim)
theorem Fr.setCell {F:Nat→Prop} {a w:World} (h:Fr F a w) {p:Addr} (hp:F p.block∨a.heap.size≤p.block) (u:Value):Fr F a (w.setCell p u):=
 h.trans (G:=fun k=>k=p.block) ⟨rfl,rfl,rfl,by simp [World.setCell],fun k _ hF=>Below.heap_setCell _ _ _ _ hF⟩ (fun i q=>by subst q;exact hp)
theorem Fr.setRow {F:Nat→Prop} {a w:World} (h:Fr F a w) {g:Nat} (hp:F g∨a.heap.size≤g) (cs:Array Value):Fr F a (w.setRow g cs):=
 h.trans (G:=fun k=>k=g) ⟨rfl,rfl,rfl,by simp [World.setRow],fun k _ hF=>setRow_other w g k cs zO⟩ (fun i q=>by subst q;exact hp)
theorem Fr.grown {F:Nat→Prop} {a w w':World} {row:Option Nat} (h:Fr F a w) (hg:w.grownBy w' row) (hr:∀ k,row=some k→F k∨a.heap.size≤k):Fr F a w':=
 h.trans (G:=fun k=>row=some k) ⟨hg.os,hg.tape,hg.output,hg.size,fun k hk hF=>hg.block k hk (fun e=>hF e.symm)⟩ (fun i q=>hr i q)
theorem Fr.below {F:Nat→Prop} {w w':World} (h:Fr F w w') {B:Nat} (hB:B≤w.heap.size) (hF:∀ k,F k→B≤k):Below B w w':=
 ⟨h.os,h.tape,h.output,h.size,fun k hk=>h.block k zO (fun q=>by have:=hF k q;omega)⟩
theorem Fr.cell {F:Nat→Prop} {w w':World} (h:Fr F w w') {a:Addr} (ha:a.block<w.heap.size) (hF:¬ F a.block):w'.cell? a=w.cell? a:=
 World.cell?_of_block (w:=w) (h.block a.block ha hF)
theorem Fr.frozen {F:Nat→Prop} {w w':World} (h:Fr F w w') {a:Addr} (ha:a.block<w.heap.size) (hF:¬ F a.block):w'.frozen? a=w.frozen? a:=
 World.frozen?_of_block (w:=w) (h.block a.block ha hF)
theorem Fr.setCells {F:Nat→Prop} {a w:World} (h:Fr F a w) {g:Nat} (hp:F g∨a.heap.size≤g):∀ (vs:List Value) (o:Nat),Fr F a (w.setCells g o vs):=by
 intro vs
 induction vs generalizing w with
 |nil=>intro o;exact h
 |cons v vs ih=>intro o;exact ih (h.setCell (p:=⟨g,o,none⟩) hp v) _
def Blk (w:World) (b:Nat) (cs:List Value) (T:TypeId):Prop:=w.heap[b]? = some (.cells cs.toArray T (0,0))
theorem Blk.lt {w:World} {b:Nat} {cs:List Value} {T:TypeId} (h:Blk w b cs T):b<w.heap.size:=by have:=(zLh.1 h).1;exact this
theorem Blk.cell {w:World} {b:Nat} {cs:List Value} {T:TypeId} (h:Blk w b cs T) (j:Nat):w.cell? ⟨b,j,none⟩=cs[j]?:=by rw [cell_of_row w b j _ T _ h];simp
theorem Blk.free {w:World} {b:Nat} {cs:List Value} {T:TypeId} (h:Blk w b cs T) (j:Nat):w.frozen? ⟨b,j,none⟩=false:=frozen_of_row w b j _ T h
theorem Blk.keep {w w':World} {b:Nat} {cs:List Value} {T:TypeId} (h:Blk w b cs T) (e:w'.heap[b]? = w.heap[b]?):Blk w' b cs T:=e.trans h
theorem Blk.set {w:World} {b:Nat} {cs:List Value} {T:TypeId} (h:Blk w b cs T) (j:Nat) (v:Value):Blk (w.setCell ⟨b,j,none⟩ v) b (cs.set j v) T:=by have:=heap_setCell_same w b j _ T v h;unfold Blk;rw [this];simp
theorem Blk.range {w:World} {b:Nat} {cs:List Value} {T:TypeId} (h:Blk w b cs T) {o n:Nat}:w.rangeAt b o ((cs.drop o).take n):=by
 intro j v hj;rw [h.cell];rw [List.getElem?_take] at hj;split at hj
 ·rw [zLC] at hj;exact hj
 ·cases hj
theorem Blk.there {w:World} {b:Nat} {cs:List Value} {T:TypeId} (h:Blk w b cs T) {o n:Nat} (hn:o+n≤cs.length):w.there b o n:=fun j hj=>
 ⟨by rw [h.cell,zLb zO];rfl,h.free _⟩
theorem Blk.row {w:World} {b:Nat} {cs:List Value} {T:TypeId} (h:Blk w b cs T) (cs':List Value):Blk (w.setRow b cs'.toArray) b cs' T:=setRow_heap w b _ _ T _ h
theorem Blk.ne {w:World} {b b':Nat} {cs cs':List Value} {T T':TypeId} (h:Blk w b cs T) (h':Blk w b' cs' T') (hT:T≠T'):b≠b':=by intro e;subst e;unfold Blk at h h';rw [h] at h';simp at h';exact hT h'.2
theorem Blk.ne_map {w:World} {b b':Nat} {cs:List Value} {T:TypeId} {es:Array MapEntry} {clock:Nat} (h:Blk w b cs T) (h':w.heap[b']? = some (.map es clock)):b'≠b:=by intro e;subst e;unfold Blk at h;rw [h] at h';simp at h'
theorem Blk.ne_row {w:World} {b g:Nat} {cs:List Value} {T:TypeId} {base:Nat} {e:TypeId} {size:Nat} {v:Value} {n:Nat} {xs:List Value} (h:Blk w b cs T) (h':w.ownsRow base e size v n xs) (hg:v.ownBlock=some g) (hT:e≠T):g≠b:=by
 intro q;subst q;rcases h'.2 with h1|⟨g',cap,aw,hv,_,hh,_⟩
 ·rw [h1.1] at hg;simp [Value.ownBlock] at hg
 ·rw [hv] at hg;simp [Value.ownBlock] at hg;subst hg;unfold Blk at h;rw [h] at hh;simp at hh;exact hT hh.2.symm
theorem yEf (w:World) (l:List Value) (T:TypeId):(w.alloc (.cells l.toArray T)).rangeAt w.heap.size 0 l:=by intro j v hj;rw [cell_of_row _ w.heap.size _ _ T _ (heap_alloc_new w _)];simpa using hj
theorem yTo {w:World} {base:Nat} {e:TypeId} {v:Value} {n:Nat} {xs:List Value} (h:w.ownsRow base e 1 v n xs) (hn:0<n):∃ g cap,v=.slice (zq g) n cap∧g<w.heap.size∧w.rangeAt g 0 xs:=by
 rcases h.2 with h1|⟨g,cap,aw,hv,_,hh,_,_,_,bZ⟩
 ·omega
 ·refine ⟨g,cap,hv,(zLh.1 hh).1,fun j v hj=>?_⟩;rw [cell_of_row w g _ _ _ _ hh];rw [← bZ,List.getElem?_take] at hj;split at hj
  ·simpa using hj
  ·cases hj
def bv (b:UInt8):Value:=.int .u8 b.toNat
def bvs (l:zB):List Value:=l.map bv
@[simp] theorem yBg (l:zB):(bvs l).length=l.length:=by simp [bvs]
theorem yRC (a b:zB):bvs (a++b)=bvs a++bvs b:=by simp [bvs]
theorem yJv (a:zB) (n:Nat):(bvs a).take n=bvs (a.take n):=by simp [bvs,List.map_take]
theorem yMh (a:zB) (n:Nat):(bvs a).drop n=bvs (a.drop n):=by simp [bvs,List.map_drop]
theorem yFj (l:zB):∀ v ∈ bvs l,v.oneCell'=true:=by intro v hv;obtain ⟨b,_,rfl⟩:=List.mem_map.1 hv;rfl
section
abbrev Hl:=Nat→Option Obj
def Hl.le (h g:Hl):Prop:=∀ k o,h k=some o→g k=some o
def Hl.dj (h g:Hl):Prop:=∀ k o,h k=some o→g k=none
def Hl.cup (h g:Hl):Hl:=fun k=>(h k).or (g k)
def Hl.one (b:Nat) (o:Obj):Hl:=fun k=>if k=b then some o else none
structure SP where
 tag:Nat
 key:Nat
 ok:Hl→Prop
def yAH:List SP→Hl→Prop
 |[],_=>True
 |A::H,h=>∃ h1 h2,Hl.dj h1 h2∧Hl.le h1 h∧Hl.le h2 h∧A.ok h1∧yAH H h2
theorem Hl.le.trans {a b c:Hl} (h:Hl.le a b) (k:Hl.le b c):Hl.le a c:=fun i o q=>k i o (h i o q)
theorem Hl.le.rfl {a:Hl}:Hl.le a a:=fun _ _ q=>q
theorem Hl.dj.symm {h g:Hl} (H:Hl.dj h g):Hl.dj g h:=fun k o q=>by
 cases hh:h k with
 |none=>rfl
 |some o'=>have:=H k o' hh;rw [q] at this;cases this
theorem Hl.dj.mono {h g h' g':Hl} (H:Hl.dj h g) (a:Hl.le h' h) (b:Hl.le g' g):Hl.dj h' g':=fun k o q=>by
 have:=H k o (a k o q);cases hh:g' k with
 |none=>rfl
 |some o'=>rw [b k o' hh] at this;cases this
theorem Hl.le_cup_left {h g:Hl}:Hl.le h (Hl.cup h g):=fun k o q=>by simp [Hl.cup,q]
theorem Hl.le_cup_right {h g:Hl} (H:Hl.dj h g):Hl.le g (Hl.cup h g):=fun k o q=>by simp [Hl.cup,H.symm k o q,q]
theorem Hl.cup_le {h g c:Hl} (a:Hl.le h c) (b:Hl.le g c):Hl.le (Hl.cup h g) c:=fun k o q=>by
 unfold Hl.cup at q;cases hh:h k with
 |none=>rw [hh] at q;exact b k o q
 |some o'=>rw [hh] at q;cases q;exact a k _ hh
theorem Hl.dj_cup {h g c:Hl} (a:Hl.dj h c) (b:Hl.dj g c):Hl.dj (Hl.cup h g) c:=fun k o q=>by
 unfold Hl.cup at q;cases hh:h k with
 |none=>rw [hh] at q;exact b k o q
 |some o'=>exact a k _ hh
theorem yQn {H:List SP}:∀ {h g:Hl},Hl.le h g→yAH H h→yAH H g:=by
 cases H with
 |nil=>intros;trivial
 |cons A H=>intro h g hg ⟨h1,h2,a,b,c,d,e⟩;exact ⟨h1,h2,a,b.trans hg,c.trans hg,d,e⟩
theorem yJL {A:SP} {H H':List SP} (f:∀ h,yAH H h→yAH H' h):∀ h,yAH (A::H) h→yAH (A::H') h:=
 fun _ ⟨h1,h2,a,b,c,d,e⟩=>⟨h1,h2,a,b,c,d,f _ e⟩
theorem yIw {A B:SP} {H:List SP} (h:Hl):yAH (A::B::H) h→yAH (B::A::H) h:=by intro ⟨h1,h2,a,b,c,d,h3,h4,a',b',c',d',e⟩;have x1:Hl.dj h1 h3:=a.mono .rfl b';have x2:Hl.dj h1 h4:=a.mono .rfl c';exact ⟨h3,Hl.cup h1 h4,(Hl.dj_cup x1 a'.symm).symm,b'.trans c,Hl.cup_le b (c'.trans c),d',h1,h4,x2,Hl.le_cup_left,Hl.le_cup_right x2,d,e⟩
theorem yCz {H H':List SP} (p:H.Perm H'):∀ h,yAH H h→yAH H' h:=by
 induction p with
 |nil=>exact fun _ q=>q
 |cons x _ ih=>exact yJL ih
 |swap x y l=>exact yIw
 |trans _ _ ih1 ih2=>exact fun h q=>ih2 h (ih1 h q)
theorem yBj {A B:List SP}:∀ h,yAH (A++B) h↔∃ h1 h2,Hl.dj h1 h2∧Hl.le h1 h∧Hl.le h2 h∧yAH A h1∧yAH B h2:=by
 induction A with
 |nil=>
  intro h;constructor
  ·intro q;exact ⟨fun _=>none,h,(fun _ _ q=>by cases q),(fun _ _ q=>by cases q),.rfl,trivial,q⟩
  ·intro ⟨h1,h2,_,_,c,_,e⟩;exact yQn c e
 |cons X A ih=>
  intro h;constructor
  ·intro ⟨h1,h2,a,b,c,d,e⟩;obtain ⟨h3,h4,a',b',c',d',e'⟩:=(ih h2).1 e;have x1:Hl.dj h1 h3:=a.mono .rfl b';have x2:Hl.dj h1 h4:=a.mono .rfl c';exact ⟨Hl.cup h1 h3,h4,Hl.dj_cup x2 a',Hl.cup_le b (b'.trans c),c'.trans c,⟨h1,h3,x1,Hl.le_cup_left,Hl.le_cup_right x1,d,d'⟩,e'⟩
  ·intro ⟨g1,g2,a,b,c,⟨h1,h3,a',b',c',d',e'⟩,e⟩;have x1:Hl.dj h1 g2:=a.mono b' .rfl;have x2:Hl.dj h3 g2:=a.mono c' .rfl;exact ⟨h1,Hl.cup h3 g2,(Hl.dj_cup a'.symm x1.symm).symm,b'.trans b,Hl.cup_le (c'.trans b) c,d',(ih _).2 ⟨h3,g2,x2,Hl.le_cup_left,Hl.le_cup_right x2,e',e⟩⟩
def Lies (W w:World) (h:Hl):Prop:=∀ k o,h k=some o→W.heap.size≤k∧w.heap[k]? = some o
structure St (W:World) (H:List SP) (w:World):Prop where
 below:Below W.heap.size W w
 own:∃ h,yAH H h∧Lies W w h
variable {W w w':World}
theorem Lies.lt {h:Hl} (H:Lies W w h) {k:Nat} {o:Obj} (q:h k=some o):k<w.heap.size:=(zLh.1 (H k o q).2).1
theorem Lies.mono {h g:Hl} (H:Lies W w g) (le:Hl.le h g):Lies W w h:=fun k o q=>H k o (le k o q)
theorem St.start (W:World):St W [] W:=⟨.refl _ _,fun _=>none,trivial,fun _ _ q=>by cases q⟩
theorem St.perm {H H':List SP} (s:St W H w) (p:H.Perm H'):St W H' w:=⟨s.below,s.own.imp fun _ q=>⟨yCz p _ q.1,q.2⟩⟩
theorem St.mono {H H':List SP} (s:St W H w) (f:∀ h,yAH H h→yAH H' h):St W H' w:=⟨s.below,s.own.imp fun _ q=>⟨f _ q.1,q.2⟩⟩
theorem St.right {A B:List SP} (s:St W (A++B) w):St W B w:=by obtain ⟨h,a,l⟩:=s.own;obtain ⟨h1,h2,_,_,le,_,b⟩:=(yBj h).1 a;exact ⟨s.below,h2,b,l.mono le⟩
theorem St.left {A B:List SP} (s:St W (A++B) w):St W A w:=by obtain ⟨h,a,l⟩:=s.own;obtain ⟨h1,h2,_,le,_,b,_⟩:=(yBj h).1 a;exact ⟨s.below,h1,b,l.mono le⟩
theorem St.size {H:List SP} (s:St W H w):W.heap.size≤w.heap.size:=s.below.size
theorem St.drawn {H:List SP} (s:St W H w) (n:Nat):St W H { w with drawn:=n }:=⟨⟨s.below.os,s.below.tape,s.below.output,s.below.size,s.below.block⟩,s.own⟩
theorem St.act {A B H:List SP} (s:St W (A++H) w) (os:w'.os=w.os) (tape:w'.tape=w.tape) (output:w'.output=w.output) (size:w.heap.size≤w'.heap.size) (hact:∀ h1,yAH A h1→Lies W w h1→∃ h2,yAH B h2∧(∀ k o,h2 k=some o→w'.heap[k]? = some o)∧(∀ k o,h2 k=some o→(∃ o',h1 k=some o')∨w.heap.size≤k)∧(∀ k,k<w.heap.size→h1 k=none→w'.heap[k]? = w.heap[k]?)):St W (B++H) w':=by
 obtain ⟨h,a,l⟩:=s.own;obtain ⟨h1,h2,dj,le1,le2,hA,hH⟩:=(yBj h).1 a;obtain ⟨g,hB,q1,q2,q3⟩:=hact h1 hA (l.mono le1);have lw:∀ k o,h k=some o→k<w.heap.size:=fun k o q=>l.lt q;have djg:Hl.dj g h2:=fun k o q=>by
  rcases q2 k o q with ⟨o',gp⟩|hk
  ·exact dj k o' gp
  ·cases hh:h2 k with
   |none=>rfl
   |some o'=>have:=lw k o' (le2 k o' hh);omega
 refine ⟨s.below.trans ⟨os,tape,output,size,fun k hk=>q3 k (by have:=s.size;omega) ?_⟩,Hl.cup g h2,(yBj _).2 ⟨g,h2,djg,Hl.le_cup_left,Hl.le_cup_right djg,hB,hH⟩,fun k o q=>?_⟩
 ·cases hh:h1 k with
  |none=>rfl
  |some o=>have:=(l k o (le1 k o hh)).1;omega
 ·unfold Hl.cup at q;cases hg:g k with
  |none=>
   rw [hg] at q;have q:h2 k=some o:=by simpa using q
   have l2:=l k o (le2 k o q);refine ⟨l2.1,(q3 k (lw k o (le2 k o q)) ?_).trans l2.2⟩;exact dj.symm k o q
  |some o'=>
   rw [hg] at q;have q:o'=o:=by simpa using q
   subst q;refine ⟨?_,q1 k o' hg⟩;rcases q2 k o' hg with ⟨o2,h2'⟩|hk
   ·exact (l k o2 (le1 k o2 h2')).1
   ·have:=s.size;omega
theorem St.split {A H:List SP} (s:St W (A++H) w):∃ h1 h2,Hl.dj h1 h2∧yAH A h1∧yAH H h2∧Lies W w h1∧Lies W w h2:=by obtain ⟨h,a,l⟩:=s.own;obtain ⟨h1,h2,dj,le1,le2,hA,hH⟩:=(yBj h).1 a;exact ⟨h1,h2,dj,hA,hH,l.mono le1,l.mono le2⟩
theorem St.join {B H:List SP} {h1 h2 g:Hl} (sb:Below W.heap.size W w) (dj:Hl.dj h1 h2) (hH:yAH H h2) (l1:Lies W w h1) (l2:Lies W w h2) (hB:yAH B g) (os:w'.os=w.os) (tape:w'.tape=w.tape) (output:w'.output=w.output) (size:w.heap.size≤w'.heap.size) (q1:∀ k o,g k=some o→w'.heap[k]? = some o) (q2:∀ k o,g k=some o→(∃ o',h1 k=some o')∨w.heap.size≤k) (q3:∀ k,k<w.heap.size→h1 k=none→w'.heap[k]? = w.heap[k]?):St W (B++H) w':=by
 have djg:Hl.dj g h2:=fun k o q=>by
  rcases q2 k o q with ⟨o',gp⟩|hk
  ·exact dj k o' gp
  ·cases hh:h2 k with
   |none=>rfl
   |some o'=>have:=l2.lt hh;omega
 refine ⟨sb.trans ⟨os,tape,output,size,fun k hk=>q3 k (by have:=sb.size;omega) ?_⟩,Hl.cup g h2,(yBj _).2 ⟨g,h2,djg,Hl.le_cup_left,Hl.le_cup_right djg,hB,hH⟩,fun k o q=>?_⟩
 ·cases hh:h1 k with
  |none=>rfl
  |some o=>have:=(l1 k o hh).1;omega
 ·unfold Hl.cup at q;cases hg:g k with
  |none=>
   rw [hg] at q;have q:h2 k=some o:=by simpa using q
   have h3:=l2 k o q;refine ⟨h3.1,(q3 k (l2.lt q) ?_).trans h3.2⟩;exact dj.symm k o q
  |some o'=>
   rw [hg] at q;have q:o'=o:=by simpa using q
   subst q;refine ⟨?_,q1 k o' hg⟩;rcases q2 k o' hg with ⟨o2,h2'⟩|hk
   ·exact (l1 k o2 h2').1
   ·have:=sb.size;omega
def yAj (b:Nat) (cs:List Value) (T:TypeId):SP:=⟨0,b,fun h=>h b=some (.cells cs.toArray T (0,0))⟩
def yQo (b:Nat) (o:Obj):SP:=⟨1,b,fun h=>h b=some o⟩
def yA4 (v:Value) (e:TypeId) (size n:Nat) (xs:List Value):SP:=⟨2,0,fun h=>xs.length=n*size∧ ((v=.slice none 0 0∧n=0)∨∃ g cap aw,v=.slice (zq g) n cap∧h g=some (.cells aw e (0,0))∧n≤cap∧cap≤maxLen∧aw.size=cap*size∧aw.toList.take (n*size)=xs)⟩
def yGZ (p:Prop):SP:=⟨3,0,fun _=>p⟩
theorem yBP {A:SP} {h:Hl} (q:A.ok h):yAH [A] h:=⟨h,fun _=>none,(fun _ _ _=>rfl),.rfl,(fun _ _ q=>by cases q),q,trivial⟩
theorem starL_one' {A:SP} (up:∀ h g,Hl.le h g→A.ok h→A.ok g) {h:Hl} (q:yAH [A] h):A.ok h:=by obtain ⟨h1,_,_,le,_,a,_⟩:=q;exact up _ _ le a
theorem yTp {b:Nat} {cs:List Value} {T:TypeId}:∀ h g,Hl.le h g→(yAj b cs T).ok h→(yAj b cs T).ok g:=fun _ _ le q=>le _ _ q
theorem yZj {b:Nat} {o:Obj}:∀ h g,Hl.le h g→(yQo b o).ok h→(yQo b o).ok g:=fun _ _ le q=>le _ _ q
theorem yZk {v:Value} {e:TypeId} {size n:Nat} {xs:List Value}:∀ h g,Hl.le h g→(yA4 v e size n xs).ok h→(yA4 v e size n xs).ok g:=by
 intro h g le ⟨l,q⟩;refine ⟨l,?_⟩;rcases q with q|⟨g',cap,aw,a,b,c⟩
 ·exact .inl q
 ·exact .inr ⟨g',cap,aw,a,le _ _ b,c⟩
theorem Hl.one_self (b:Nat) (o:Obj):Hl.one b o b=some o:=by simp [Hl.one]
theorem Hl.one_some {b k:Nat} {o o':Obj} (h:Hl.one b o k=some o'):k=b∧o'=o:=by
 unfold Hl.one at h;split at h
 ·cases h;exact ⟨by assumption,rfl⟩
 ·cases h
inductive Sel (A:SP):List SP→List SP→Prop
 |here {H:List SP}:Sel A (A::H) H
 |there {B:SP} {H H':List SP}:Sel A H H'→Sel A (B::H) (B::H')
theorem Sel.perm {A:SP} {H H':List SP} (s:Sel A H H'):H.Perm (A::H'):=by
 induction s with
 |here=>exact .refl _
 |there _ ih=>exact (List.Perm.cons _ ih).trans (.swap _ _ _)
inductive Rep (A A':SP):List SP→List SP→Prop
 |here {H:List SP}:Rep A A' (A::H) (A'::H)
 |there {B:SP} {H H':List SP}:Rep A A' H H'→Rep A A' (B::H) (B::H')
theorem Rep.split {A A':SP} {H H':List SP} (s:Rep A A' H H'):∃ R,H.Perm (A::R)∧(A'::R).Perm H':=by
 induction s with
 |here=>exact ⟨_,.refl _,.refl _⟩
 |there _ ih=>
  obtain ⟨R,p,q⟩:=ih;exact ⟨_::R,(List.Perm.cons _ p).trans (.swap _ _ _),(List.Perm.swap _ _ _).trans (List.Perm.cons _ q)⟩
inductive Pick:List SP→List SP→List SP→Prop
 |nil {H:List SP}:Pick [] H H
 |cons {A:SP} {As H H1 H2:List SP}:Sel A H H1→Pick As H1 H2→Pick (A::As) H H2
theorem Pick.perm {As H R:List SP} (p:Pick As H R):H.Perm (As++R):=by
 induction p with
 |nil=>exact .refl _
 |cons s _ ih=>exact s.perm.trans (List.Perm.cons _ ih)
theorem xS {A:SP} {H R:List SP} (h:Sel A H R:=by (repeat' (first|exact Sel.here|apply Sel.there));first|done|fail):Sel A H R:=h
theorem xR {A B:SP} {H R:List SP} (h:Rep A B H R:=by (repeat' (first|exact Rep.here|apply Rep.there));first|done|fail):Rep A B H R:=h
theorem xP {As H R:List SP} (h:Pick As H R:=by (repeat' (first|exact Pick.nil|apply Pick.cons|exact Sel.here|apply Sel.there));first|done|fail):Pick As H R:=h
theorem St.sel {A:SP} {H R:List SP} (s:St W H w) (p:Sel A H R) (up:∀ h g,Hl.le h g→A.ok h→A.ok g):∃ h,A.ok h∧Lies W w h:=by obtain ⟨h,a,l⟩:=((s.perm p.perm).left (A:=[A])).own;exact ⟨h,starL_one' up a,l⟩
theorem St.blk {b:Nat} {cs:List Value} {T:TypeId} {H R:List SP} (s:St W H w) (p:Sel (yAj b cs T) H R):W.heap.size≤b∧Blk w b cs T:=by obtain ⟨h,a,l⟩:=s.sel p yTp;exact l b _ a
theorem St.obj {b:Nat} {o:Obj} {H R:List SP} (s:St W H w) (p:Sel (yQo b o) H R):W.heap.size≤b∧w.heap[b]? = some o:=by obtain ⟨h,a,l⟩:=s.sel p yZj;exact l b _ a
theorem St.row {v:Value} {e:TypeId} {size n:Nat} {xs:List Value} {H R:List SP} (s:St W H w) (p:Sel (yA4 v e size n xs) H R):w.ownsRow W.heap.size e size v n xs:=by
 obtain ⟨h,⟨q,a⟩,l⟩:=s.sel p yZk;refine ⟨q,?_⟩;rcases a with a|⟨g,cap,aw,a,b,c⟩
 ·exact .inl a
 ·exact .inr ⟨g,cap,aw,a,(l g _ b).1,(l g _ b).2,c⟩
theorem St.fact {p:Prop} {H R:List SP} (s:St W H w) (q:Sel (yGZ p) H R):p:=by obtain ⟨h,a,_⟩:=s.sel q (fun _ _ _ x=>x);exact a
theorem St.turn {b:Nat} {o o':Obj} {A A':SP} {H H':List SP} (s:St W H w) (r:Rep A A' H H') (hA:∀ h,A.ok h→h b=some o) (hA':A'.ok (Hl.one b o')) (os:w'.os=w.os) (tape:w'.tape=w.tape) (output:w'.output=w.output) (size:w'.heap.size=w.heap.size) (hb:w'.heap[b]? = some o') (hk:∀ k,k≠b→w'.heap[k]? = w.heap[k]?):St W H' w':=by
 obtain ⟨R,p,q⟩:=r.split;refine St.perm (St.act (A:=[A]) (B:=[A']) (H:=R) (s.perm p) os tape output zO ?_) q;intro h1 ⟨h,_,_,le,_,a,_⟩ l;refine ⟨Hl.one b o',yBP hA',fun k x hx=>?_,fun k x hx=>?_,fun k _ hn=>hk k ?_⟩
 ·obtain ⟨rfl,rfl⟩:=Hl.one_some hx;exact hb
 ·obtain ⟨rfl,rfl⟩:=Hl.one_some hx;exact .inl ⟨_,le _ _ (hA _ a)⟩
 ·intro e;subst e;rw [le _ _ (hA _ a)] at hn;cases hn
theorem St.setRow {b:Nat} {cs cs':List Value} {T:TypeId} {H H':List SP} (s:St W H w) (r:Rep (yAj b cs T) (yAj b cs' T) H H'):St W H' (w.setRow b cs'.toArray):=by
 have hb:Blk w b cs T:=by obtain ⟨R,p,_⟩:=r.split;exact ((s.perm p).blk .here).2
 exact s.turn r (fun h q=>q) (Hl.one_self _ _) rfl rfl rfl (by simp [World.setRow]) (hb.row cs') (fun k hk=>setRow_other w b k _ hk)
theorem St.setCell {b j:Nat} {cs:List Value} {v:Value} {T:TypeId} {H H':List SP} (s:St W H w) (r:Rep (yAj b cs T) (yAj b (cs.set j v) T) H H'):St W H' (w.setCell ⟨b,j,none⟩ v):=by
 have hb:Blk w b cs T:=by obtain ⟨R,p,_⟩:=r.split;exact ((s.perm p).blk .here).2
 exact s.turn r (fun h q=>q) (Hl.one_self _ _) rfl rfl rfl (by simp [World.setCell]) (hb.set j v) (fun k hk=>Below.heap_setCell _ _ _ _ hk)
theorem St.alloc {A:SP} {o:Obj} {H:List SP} (s:St W H w) (hA:A.ok (Hl.one w.heap.size o)):St W (A::H) (w.alloc o):=by
 refine St.act (A:=[]) (B:=[A]) (H:=H) s rfl rfl rfl zW ?_;intro h1 _ _;refine ⟨Hl.one w.heap.size o,yBP hA,fun k x hx=>?_,fun k x hx=>?_,fun k hk _=>Below.heap_alloc _ _ _ hk⟩
 ·obtain ⟨rfl,rfl⟩:=Hl.one_some hx;exact heap_alloc_new w _
 ·obtain ⟨rfl,rfl⟩:=Hl.one_some hx;exact .inr (Nat.le_refl _)
theorem St.new {cs:List Value} {T:TypeId} {H:List SP} (s:St W H w):St W (yAj w.heap.size cs T::H) (w.alloc (.cells cs.toArray T)):=s.alloc (Hl.one_self _ _)
theorem St.old {H:List SP} (s:St W H w) {a:Addr} {v:Value} (h:W.cell? a=some v):w.cell? a=some v:=by have hb:a.block<W.heap.size:=World.block_lt_of_cell? W a h;rw [s.below.cell hb];exact h
end
class UIs (P:Program) (t:TypeId) (d:outParam TypeDesc):Prop where h:P.underlying t=some d
class SzIs (P:Program) (t:TypeId) (m:outParam Nat):Prop where h:(P.info? t).map (·.size)=some m
class ByIs (P:Program) (t:TypeId) (m:outParam Nat):Prop where h:(P.info? t).map (·.bytes)=some m
class ZcIs (P:Program) (t:TypeId) (zs:outParam (List Value)):Prop where h:(P.info? t).map (fun i=>i.zero.map (·.cells))=some (some zs.toArray)
class FnIs (P : Program) (f : FuncId) : Prop where h : (P.funcs[f]?).map (fun fn => fn.body.isSome && fn.name != "runtime.NumGoroutine") = some true
def yI2:TypeDesc→Bool
 |.struct _=>true
 |.array _ _=>true
 |_=>false
class ScIs (P:Program) (t:TypeId):Prop where h:∃ d,P.underlying t=some d∧yI2 d=false
class AgIs (P:Program) (t:TypeId):Prop where h:∃ d,P.underlying t=some d∧yI2 d=true
class FldIs (P:Program) (t:TypeId) (f:Nat) (ft off:outParam Nat):Prop where h:∃ fs fd,P.underlying t=some (.struct fs)∧fs[f]? = some fd∧fd.type=ft∧fd.offset=off
abbrev Env:=List (Nat × Value)
def Env.at:Env→Nat→Option Value
 |[],_=>none
 |(k,v)::E,t=>bif Nat.beq k t then some v else Env.at E t
def Env.ev (E:Env):Operand→Option Value
 |.tmp t=>Env.at E t
 |.const v=>some v
 |.global g=>some (.pointer (zq g))
 |.func f=>some (.func (.func f) #[] #[])
def Env.put (E:Env):Option Tmp→Value→Env
 |some d,v=>(d,v)::E
 |none,_=>E
inductive Evs (E:Env):List Operand→List Value→Prop
 |nil:Evs E [] []
 |cons {x:Operand} {v:Value} {xs:List Operand} {vs:List Value}:Env.ev E x=some v→Evs E xs vs→Evs E (x::xs) (v::vs)
inductive Subs (E:Env):Env→Prop
 |nil:Subs E []
 |cons {t:Nat} {v:Value} {E':Env}:Env.at E t=some v→Subs E E'→Subs E ((t,v)::E')
theorem xE {E:Env} {xs:List Operand} {vs:List Value} (h:Evs E xs vs:=by (repeat' (first|exact Evs.nil|refine Evs.cons rfl ?_));first|done|fail):Evs E xs vs:=h
theorem xB {E E':Env} (h:Subs E E':=by (repeat' (first|exact Subs.nil|refine Subs.cons rfl ?_));first|done|fail):Subs E E':=h
structure Hd (n:Nat) (E:Env) (a:Act):Prop where
 size:a.tmps.size=n
 at_:∀ t v,Env.at E t=some v→a.tmps[t]? = some v
def yFW (n:Nat):Option Tmp→Bool
 |some d=>Nat.blt d n
 |none=>true
section
variable {n:Nat} {E:Env} {a:Act}
theorem Hd.ev (h:Hd n E a) {x:Operand} {v:Value} (q:Env.ev E x=some v):a.eval x=v:=by
 cases x with
 |tmp t=>have:=h.at_ t v q;simp [Act.eval,this]
 |const u=>cases q;rfl
 |global g=>cases q;rfl
 |func f=>cases q;rfl
theorem Hd.evs (h:Hd n E a) {xs:List Operand} {vs:List Value} (q:Evs E xs vs):xs.map a.eval=vs:=by
 induction q with
 |nil=>rfl
 |cons e _ ih=>rw [List.map_cons,ih,h.ev e]
theorem Env.at_cons (k:Nat) (v:Value) (E:Env) (t:Nat):Env.at ((k,v)::E) t=if k=t then some v else Env.at E t:=by
 show (bif Nat.beq k t then some v else Env.at E t)=_;by_cases h:k=t
 ·subst h;simp
 ·have:Nat.beq k t=false:=by cases q:Nat.beq k t with
   |false=>rfl
   |true=>exact absurd (Nat.eq_of_beq_eq_true q) h
  simp [this,h]
theorem Env.at_self (t:Nat) (v:Value) (E:Env):Env.at ((t,v)::E) t=some v:=by rw [Env.at_cons,if_pos rfl]
theorem Hd.put (h:Hd n E a) {d:Option Tmp} (hd:yFW n d=true) (v:Value):Hd n (Env.put E d v) (a.put d v):=by
 cases d with
 |none=>exact h
 |some d=>
  have hd:d<n:=Nat.le_of_ble_eq_true hd;refine ⟨by simp [Act.put,h.size],fun t u q=>?_⟩;have q:(if d=t then some v else Env.at E t)=some u:=by rw [← Env.at_cons];exact q
  by_cases e:d=t
  ·subst e;simp at q;subst q;simp [Act.put,h.size,hd]
  ·rw [if_neg e] at q;show (a.tmps.setIfInBounds d v)[t]? = _;rw [zLx e];exact h.at_ t u q
theorem Subs.at (E E':Env) (s:Subs E E'):∀ t v,Env.at E' t=some v→Env.at E t=some v:=by
 induction s with
 |nil=>intro t v q;cases q
 |cons e _ ih=>
  intro t v q;rw [Env.at_cons] at q;split at q
  ·rename_i h;subst h;cases q;exact e
  ·exact ih t v q
theorem Hd.subs (h:Hd n E a) {E':Env} (s:Subs E E'):Hd n E' a:=⟨h.size,fun t v q=>h.at_ t v (Subs.at _ _ s t v q)⟩
end
abbrev fen (ro:Option Nat):Fence:={ fn:=fun _=>True,depth:=none,alive:=false,round:=ro }
def uponP (P:Program) (o:Oper) (a:Act) (next:Act→World→Prop):Result Next→Prop
 |.ok (.value v) w'=>next (a.put o.dst v) w'
 |.ok .skip w'=>next (a.put o.dst undef) w'
 |.ok (.enter f args) w'=>Calls P f args w' fun e w''=>∃ v,e=.returned v∧next (a.put o.dst v) w''
 |.ok (.round l f tmps assign body) w'=>RoundIn Fence.wide 0 P l f tmps assign body w' fun e w''=>∃ v,e=.returned v∧next (a.put o.dst v) w''
 |_=>False
theorem yWx {P:Program} {o:Oper} {a:Act} {w:World} {next:Act→World→Prop} (ro:Option Nat) (h:uponP P o a next ((execOp a.eval o).run P w)):o.semAt ro a.eval=execOp a.eval o:=by
 unfold Oper.semAt;cases ro with
 |none=>rfl
 |some l=>
  cases ho:o.op with
  |defer c=>
   exfalso;simp only [execOp,ho,Sem.run_bind,Sem.run_pure] at h;cases hr:(resolve a.eval c o.type).run P w <;> simp [hr,Result.andThen,uponP] at h
  |_=>rfl
theorem uponP.mono {P:Program} {o:Oper} {a:Act} {next jW:Act→World→Prop} {r:Result Next} (h:uponP P o a next r) (f:∀ a w,next a w→jW a w):uponP P o a jW r:=by
 unfold uponP at h ⊢;split
 ·exact f _ _ h
 ·exact f _ _ h
 ·exact h.mono fun e w ⟨v,he,hn⟩=>⟨v,he,f _ _ hn⟩
 ·exact h.mono fun e w ⟨v,he,hn⟩=>⟨v,he,f _ _ hn⟩
 ·simp_all
theorem uponP.wpIn {P:Program} {o:Oper} {a:Act} {w:World} {next:Act→World→Prop} (ro:Option Nat) (Q:Exit→Act→World→Prop) (h:uponP P o a next ((execOp a.eval o).run P w)):o.wpIn (fen ro) 0 P a w next Q:=by
 refine ⟨fun _ _=>trivial,?_⟩;show o.uponIn (fen ro) 0 P a next Q ((o.semAt ro a.eval).run P w);rw [yWx ro h];generalize (execOp a.eval o).run P w=r at h;unfold uponP at h;split at h
 ·exact h
 ·exact h
 ·refine ⟨fun e=>by simp at e,?_⟩;exact (callsIn_wide (n:=0)).2 (h.mono fun e w ⟨v,he,hn⟩=>by subst he;exact hn)
 ·refine ⟨fun e=>by simp at e,?_⟩;exact RoundIn.mono (F:=Fence.wide) h fun e w ⟨v,he,hn⟩=>by subst he;exact hn
 ·exact h.elim
inductive QQ where
 |top (Q:Exit→Act→World→Prop)
 |rnd (l:Nat) (Q:Exit→Act→World→Prop)
 |seq (P:Program) (y:Code) (q:QQ)
 |thn (K:Act→World→Prop) (q:QQ)
 |blk (id:Nat) (q:QQ)
def QQ.ro:QQ→Option Nat
 |.top _=>none
 |.rnd l _=>some l
 |.seq _ _ q=>q.ro
 |.thn _ q=>q.ro
 |.blk _ q=>q.ro
def QQ.den:QQ→Exit→Act→World→Prop
 |.top Q=>Q
 |.rnd _ Q=>Q
 |.seq P y q=>Exit.then (y.wpIn (fen q.ro) 0 P q.den) q.den
 |.thn K q=>Exit.then K q.den
 |.blk id q=>Exit.inBlock id q.den
inductive KK where
 |code (P:Program) (c:Code) (q:QQ)
 |list (P:Program) (ops:Array Oper) (q:QQ) (l:List Oper)
 |oper (P:Program) (op:Op) (d:Option Tmp) (k:KK)
 |ex (q:QQ) (e:Exit)
 |raw (K:Act→World→Prop)
def KK.den:KK→Act→World→Prop
 |.code P c q=>c.wpIn (fen q.ro) 0 P q.den
 |.list P ops q l=>wpListIn (fen q.ro) 0 P ops q.den l
 |.oper P op d k=>fun a w=>∀ o:Oper,o.op=op→o.dst=d→uponP P o a k.den ((execOp a.eval o).run P w)
 |.ex q e=>q.den e
 |.raw K=>K
def dm:List Deferred→List SP
 |[]=>[]
 |d::ds=>(match d.target with
  |.collected r=>yQo r (.deferred (some []))
  |_=>yGZ False)::dm ds
abbrev Sta (W:World) (H:List SP) (a:Act) (w:World):Prop:=St W (H++dm a.defers) w
theorem yB9 (a:Act) (d:Option Tmp) (v:Value):(a.put d v).defers=a.defers:=by cases d <;> rfl
theorem Sel.app {A:SP} {H R:List SP} (s:Sel A H R) (M:List SP):Sel A (H++M) (R++M):=by
 induction s with
 |here=>exact .here
 |there _ ih=>exact .there ih
theorem Rep.app {A B:SP} {H R:List SP} (s:Rep A B H R) (M:List SP):Rep A B (H++M) (R++M):=by
 induction s with
 |here=>exact .here
 |there _ ih=>exact .there ih
theorem yJw {H H':List SP} (f:∀ g,yAH H g→yAH H' g) (M:List SP):∀ g,yAH (H++M) g→yAH (H'++M) g:=fun g q=>by obtain ⟨h1,h2,a,b,c,d,e⟩:=(yBj g).1 q;exact (yBj g).2 ⟨h1,h2,a,b,c,f _ d,e⟩
structure KJ (W:World) (n:Nat) (k:KK) (E:Env) (H:List SP):Prop where
 go:∀ a w,Hd n E a→Sta W H a w→k.den a w
section
variable {P:Program} {W:World} {n:Nat} {k:KK} {q:QQ} {E:Env} {H:List SP} {ops:Array Oper} {l:List Oper}
theorem KJ.weak {E':Env} {H':List SP} (h:KJ W n k E' H') (s:Subs E E') (f:∀ g,yAH H g→yAH H' g):KJ W n k E H:=⟨fun a w p q=>h.go a w (p.subs s) (q.mono (yJw f _))⟩
theorem KJ.perm {H':List SP} (h:KJ W n k E H') (p:H.Perm H'):KJ W n k E H:=⟨fun a w q s=>h.go a w q (s.perm (p.append_right _))⟩
theorem yTq {x y:Code} (h:KJ W n (.code P x (.seq P y q)) E H):KJ W n (.code P (Code.seq x y) q) E H:=⟨fun a w p s=>wpIn_seq (h.go a w p s)⟩
theorem yZl (h:KJ W n (.ex q .normal) E H):KJ W n (.code P Code.skip q) E H:=⟨fun a w p s=>wpIn_skip (h.go a w p s)⟩
theorem xA8 (h:KJ W n (.ex q .ret) E H):KJ W n (.code P Code.ret q) E H:=⟨fun a w p s=>wpIn_ret (h.go a w p s)⟩
theorem yZm {id:Nat} (h:KJ W n (.ex q (.exit id)) E H):KJ W n (.code P (Code.exit id) q) E H:=⟨fun a w p s=>wpIn_exit (h.go a w p s)⟩
theorem yWy {id:Nat} {c:Code} (h:KJ W n (.code P c (.blk id q)) E H):KJ W n (.code P (Code.block id c) q) E H:=⟨fun a w p s=>wpIn_block (h.go a w p s)⟩
theorem yOW {c:Operand} {x y:Code} {t:Bool} (hc:Env.ev E c=some (.bool t)) (ht:t=true→KJ W n (.code P x q) E H) (hf:t=false→KJ W n (.code P y q) E H):KJ W n (.code P (Code.cond c x y) q) E H:=
 KJ.mk fun a w p s=>wpIn_cond_split (p.ev hc) (fun e=>(ht e).go a w p s) (fun e=>(hf e).go a w p s)
theorem yJM {c:Operand} {x y:Code} {p:Prop} [Decidable p] (hc:Env.ev E c=some (.bool (decide p))) (ht:p→KJ W n (.code P x q) E H) (hf:¬ p→KJ W n (.code P y q) E H):KJ W n (.code P (Code.cond c x y) q) E H:=
 yOW hc (fun e=>ht (by simpa using e)) (fun e=>hf (by simpa using e))
theorem yTr {c:Operand} {x y:Code} (hc:Env.ev E c=some (.bool true)) (h:KJ W n (.code P x q) E H):KJ W n (.code P (Code.cond c x y) q) E H:=yOW hc (fun _=>h) (fun e=>by cases e)
theorem yTs {c:Operand} {x y:Code} (hc:Env.ev E c=some (.bool false)) (h:KJ W n (.code P y q) E H):KJ W n (.code P (Code.cond c x y) q) E H:=yOW hc (fun e=>by cases e) (fun _=>h)
theorem yMi {y:Code} (h:KJ W n (.code P y q) E H):KJ W n (.ex (.seq P y q) .normal) E H:=⟨h.go⟩
theorem yRD {y:Code} (h:KJ W n (.ex q .ret) E H):KJ W n (.ex (.seq P y q) .ret) E H:=⟨h.go⟩
theorem yOX {id:Nat} {y:Code} (h:KJ W n (.ex q (.exit id)) E H):KJ W n (.ex (.seq P y q) (.exit id)) E H:=⟨h.go⟩
theorem yMj {K:Act→World→Prop} (h:KJ W n (.raw K) E H):KJ W n (.ex (.thn K q) .normal) E H:=⟨h.go⟩
theorem yRE {K:Act→World→Prop} (h:KJ W n (.ex q .ret) E H):KJ W n (.ex (.thn K q) .ret) E H:=⟨h.go⟩
theorem yOY {id:Nat} {K:Act→World→Prop} (h:KJ W n (.ex q (.exit id)) E H):KJ W n (.ex (.thn K q) (.exit id)) E H:=⟨h.go⟩
theorem yMk {id:Nat} (h:KJ W n (.ex q .normal) E H):KJ W n (.ex (.blk id q) .normal) E H:=⟨h.go⟩
theorem yRF {id:Nat} (h:KJ W n (.ex q .ret) E H):KJ W n (.ex (.blk id q) .ret) E H:=⟨h.go⟩
theorem yOZ {id:Nat} (h:KJ W n (.ex q .normal) E H):KJ W n (.ex (.blk id q) (.exit id)) E H:=KJ.mk fun a w p s=>by show (if id=id then q.den .normal a w else q.den (.exit id) a w);rw [if_pos rfl];exact h.go a w p s
theorem KJ_blk_exit' {id id':Nat} (ao:Nat.beq id' id=false) (h:KJ W n (.ex q (.exit id')) E H):KJ W n (.ex (.blk id q) (.exit id')) E H:=KJ.mk fun a w p s=>by show (if id'=id then q.den .normal a w else q.den (.exit id') a w);rw [if_neg (Nat.ne_of_beq_eq_false ao)];exact h.go a w p s
def xA9 {ι:Type} (W:World) (n:Nat) (Ei:ι→Env) (Hi:ι→List SP) (μ:ι→Nat) (i:ι):Act→World→Prop:=fun a w=>∃ j,μ j<μ i∧Hd n (Ei j) a∧Sta W (Hi j) a w
theorem yAC {ι:Type} (Ei:ι→Env) (Hi:ι→List SP) (μ:ι→Nat) (i0:ι) {c:Code} (hE:Subs E (Ei i0)) (hH:∀ g,yAH H g→yAH (Hi i0) g) (round:∀ i,KJ W n (.code P c (.thn (xA9 W n Ei Hi μ i) q)) (Ei i) (Hi i)):KJ W n (.code P (Code.loop c) q) E H:=by
 have key:∀ m i,μ i=m→∀ a w,Hd n (Ei i) a→Sta W (Hi i) a w→∀ (b:Frame) (k:List Item) (cs:List Frame),b.roundOf=q.ro→
  ∃ e a' w',q.den e a' w'∧ArrivesIn (Machine.fenced P (fen q.ro)) P (lone (b.atR a (.code c::.inLoop c::k)) cs w) b k cs e a' w':=by
  intro m
  induction m using Nat.strongRecOn with
  |_ m ih=>
   intro i hi a w p s b k cs cI;have ah:(fen q.ro).room (cs.length+1+0):=fun _ h=>by simp at h
   obtain ⟨e,a₁,w₁,hq,eB⟩:=(round i).go a w p s b (.inLoop c::k) cs cI trivial ah;cases e with
   |normal=>
    obtain ⟨j,hlt,p1,q1⟩:=hq;obtain ⟨e₂,a₂,w₂,hq₂,harr₂⟩:=ih (μ j) (hi ▸ hlt) j rfl a₁ w₁ p1 q1 b k cs cI;exact ⟨e₂,a₂,w₂,hq₂,.of_steps (StepsIn.trans eB (.one (fenced_calm (n:=0) trivial ah rfl) stepR_inLoop)) harr₂⟩
   |exit id=>exact ⟨_,a₁,w₁,hq,.pass (x:=.inLoop c) rfl (fun _ _=>.inl zW) eB⟩
   |goto l=>exact ⟨_,a₁,w₁,hq,.pass (x:=.inLoop c) rfl (fun _ _=>.inl zW) eB⟩
   |ret=>exact ⟨_,a₁,w₁,hq,.pass (x:=.inLoop c) rfl (fun _ _=>.inl zW) eB⟩
   |panic ch=>exact ⟨_,a₁,w₁,hq,.pass (x:=.inLoop c) rfl (fun _ _=>.inl zW) eB⟩
   |outgrown=>exact ⟨_,a₁,w₁,hq,.pass (x:=.inLoop c) rfl (fun _ _=>.inl zW) eB⟩
 refine KJ.weak (E':=Ei i0) (H':=Hi i0) ?_ hE hH;refine ⟨fun a w p s b k cs cI hb hr=>?_⟩;obtain ⟨e,a',w',hq,eB⟩:=key _ i0 rfl a w p s b k cs cI;exact ⟨e,a',w',hq,.of_steps (.one (fenced_calm (n:=0) hb hr rfl) stepR_loop) eB⟩
theorem yAs {ι:Type} {Ei:ι→Env} {Hi:ι→List SP} {μ:ι→Nat} {i:ι} (j:ι) (hlt:μ j<μ i) (hE:Subs E (Ei j)) (hH:∀ g,yAH H g→yAH (Hi j) g):KJ W n (.raw (xA9 W n Ei Hi μ i)) E H:=
 ⟨fun _ _ p s=>⟨j,hlt,p.subs hE,s.mono (yJw hH _)⟩⟩
theorem yTt {id:Nat} (h:KJ W n (.list P l.toArray q l) E H):KJ W n (.code P (Code.region id l.toArray false) q) E H:=⟨fun a w p s=>wpIn_region_lit (h.go a w p s)⟩
theorem xBa (h:KJ W n (.ex q .normal) E H):KJ W n (.list P ops q []) E H:=⟨h.go⟩
section
variable {op:Op} {d:Option Tmp} {ty:TypeId} {pos:String} {af:Array Edge}
theorem yWz (h:KJ W n (.oper P op d (.list P ops q l)) E H):KJ W n (.list P ops q (⟨d,op,ty,pos,af,none⟩::l)) E H:=
 KJ.mk fun a w p s=>wpListIn_step fun _ hK=>by rw [if_pos (by simp [Region.wanted])];exact ((h.go a w p s _ rfl rfl).mono hK).wpIn _ _
theorem yEg {o:Oper} {j:Nat} {b:Bool} {t:Nat} {v:Value} {a:Act} (hg:o.guard=some (j,b)) (hj:(ops[j]?).bind (·.dst)=some t) (p:Hd n E a) (ht:Env.at E t=some v):Region.wanted o (yielded ops a.tmps)=match v with | .bool c=>c == b|_=>false:=by have h1:=p.at_ t v ht;unfold Region.wanted yielded;rw [hg];simp only [hj,Option.bind_some,h1];cases v <;> simp
theorem yI3 {j:Nat} {b:Bool} {t:Nat} (hj:(ops[j]?).bind (·.dst)=some t) (ht:Env.at E t=some (.bool b)) (h:KJ W n (.oper P op d (.list P ops q l)) E H):KJ W n (.list P ops q (⟨d,op,ty,pos,af,some (j,b)⟩::l)) E H:=
 KJ.mk fun a w p s=>wpListIn_step fun K hK=>by rw [if_pos (by rw [yEg rfl hj p ht];simp)];exact ((h.go a w p s _ rfl rfl).mono hK).wpIn _ _
def yYr (b:Bool):Value→Bool
 |.bool c=>c != b
 |_=>true
theorem yJN {j:Nat} {b:Bool} {t:Nat} {v:Value} (hj:(ops[j]?).bind (·.dst)=some t) (ht:Env.at E t=some v) (hv:yYr b v=true) (hd:yFW n d=true) (h:KJ W n (.list P ops q l) (Env.put E d undef) H):KJ W n (.list P ops q (⟨d,op,ty,pos,af,some (j,b)⟩::l)) E H:=
 KJ.mk fun a w p s=>wpListIn_step fun K hK=>by
  have hw:Region.wanted (⟨d,op,ty,pos,af,some (j,b)⟩:Oper) (yielded ops a.tmps)=false:=by rw [yEg rfl hj p ht];cases v <;> simp_all [yYr]
  rw [if_neg (by rw [hw];simp)];refine ⟨fun _ _=>trivial,hK _ _ (h.go _ w (p.put hd undef) ?_)⟩;show St W (H++dm (a.put d undef).defers) w;rw [yB9];exact s
theorem Hd.also {a:Act} (h:Hd n E a) {t:Nat} {v:Value} (q:Env.at E t=some v):Hd n ((t,v)::E) a:=⟨h.size,fun u x e=>by
 rw [Env.at_cons] at e;split at e
 ·rename_i ht;subst ht;cases e;exact h.at_ _ _ q
 ·exact h.at_ u x e⟩
theorem KJ.also (t:Nat) {v:Value} (q:Env.at E t=some v) (h:KJ W n k ((t,v)::E) H):KJ W n k E H:=⟨fun a w p s=>h.go a w (p.also q) s⟩
theorem yG3 {j:Nat} {b c:Bool} {t:Nat} (hj:(ops[j]?).bind (·.dst)=some t) (ht:Env.at E t=some (.bool c)) (hd:yFW n d=true) (hy:c=b→KJ W n (.oper P op d (.list P ops q l)) ((t,.bool b)::E) H) (hn:c=!b→KJ W n (.list P ops q l) (Env.put ((t,.bool !b)::E) d undef) H):KJ W n (.list P ops q (⟨d,op,ty,pos,af,some (j,b)⟩::l)) E H:=by
 by_cases h:c=b
 ·subst h;exact (yI3 hj (Env.at_self t _ E) (hy rfl)).also t ht
 ·have h:c=!b:=by cases c <;> cases b <;> simp_all
  subst h;exact (yJN hj (Env.at_self t _ E) (by cases b <;> rfl) hd (hn rfl)).also t ht
theorem yG4 {j:Nat} {t:Nat} {p:Prop} [Decidable p] (hj:(ops[j]?).bind (·.dst)=some t) (ht:Env.at E t=some (.bool (decide p))) (hd:yFW n d=true) (hy:p→KJ W n (.oper P op d (.list P ops q l)) ((t,.bool true)::E) H) (hn:¬ p→KJ W n (.list P ops q l) (Env.put ((t,.bool false)::E) d undef) H):KJ W n (.list P ops q (⟨d,op,ty,pos,af,some (j,true)⟩::l)) E H:=
 yG3 hj ht hd (fun e=>hy (by simpa using e)) (fun e=>hn (by simpa using e))
theorem yG5 {j:Nat} {t:Nat} {p:Prop} [Decidable p] (hj:(ops[j]?).bind (·.dst)=some t) (ht:Env.at E t=some (.bool (decide p))) (hd:yFW n d=true) (hy:¬ p→KJ W n (.oper P op d (.list P ops q l)) ((t,.bool false)::E) H) (hn:p→KJ W n (.list P ops q l) (Env.put ((t,.bool true)::E) d undef) H):KJ W n (.list P ops q (⟨d,op,ty,pos,af,some (j,false)⟩::l)) E H:=
 yG3 hj ht hd (fun e=>hy (by simpa using e)) (fun e=>hn (by simpa using e))
inductive Stp:KK→KK→Prop
 |seq {P:Program} {x y:Code} {q:QQ}:Stp (.code P (Code.seq x y) q) (.code P x (.seq P y q))
 |region {P:Program} {id:Nat} {l:List Oper} {q:QQ}:Stp (.code P (Code.region id l.toArray false) q) (.list P l.toArray q l)
 |plain {P:Program} {ops:Array Oper} {q:QQ} {l:List Oper} {op:Op} {d:Option Tmp} {ty:TypeId} {pos:String} {af:Array Edge}:Stp (.list P ops q (⟨d,op,ty,pos,af,none⟩::l)) (.oper P op d (.list P ops q l))
 |nil {P:Program} {ops:Array Oper} {q:QQ}:Stp (.list P ops q []) (.ex q .normal)
 |skip {P:Program} {q:QQ}:Stp (.code P Code.skip q) (.ex q .normal)
 |ret {P:Program} {q:QQ}:Stp (.code P Code.ret q) (.ex q .ret)
 |exit {P:Program} {q:QQ} {id:Nat}:Stp (.code P (Code.exit id) q) (.ex q (.exit id))
 |block {P:Program} {q:QQ} {id:Nat} {c:Code}:Stp (.code P (Code.block id c) q) (.code P c (.blk id q))
 |seq_normal {P:Program} {q:QQ} {y:Code}:Stp (.ex (.seq P y q) .normal) (.code P y q)
 |seq_ret {P:Program} {q:QQ} {y:Code}:Stp (.ex (.seq P y q) .ret) (.ex q .ret)
 |seq_exit {P:Program} {q:QQ} {y:Code} {id:Nat}:Stp (.ex (.seq P y q) (.exit id)) (.ex q (.exit id))
 |thn_normal {q:QQ} {K:Act→World→Prop}:Stp (.ex (.thn K q) .normal) (.raw K)
 |thn_ret {q:QQ} {K:Act→World→Prop}:Stp (.ex (.thn K q) .ret) (.ex q .ret)
 |thn_exit {q:QQ} {K:Act→World→Prop} {id:Nat}:Stp (.ex (.thn K q) (.exit id)) (.ex q (.exit id))
 |blk_normal {q:QQ} {id:Nat}:Stp (.ex (.blk id q) .normal) (.ex q .normal)
 |blk_ret {q:QQ} {id:Nat}:Stp (.ex (.blk id q) .ret) (.ex q .ret)
 |blk_exit {q:QQ} {id:Nat}:Stp (.ex (.blk id q) (.exit id)) (.ex q .normal)
theorem yQp {W:World} {n:Nat} {E:Env} {H:List SP} {k k':KK} (s:Stp k k') (h:KJ W n k' E H):KJ W n k E H:=by
 cases s
 ·exact yTq h
 ·exact yTt h
 ·exact yWz h
 ·exact xBa h
 ·exact yZl h
 ·exact xA8 h
 ·exact yZm h
 ·exact yWy h
 ·exact yMi h
 ·exact yRD h
 ·exact yOX h
 ·exact yMj h
 ·exact yRE h
 ·exact yOY h
 ·exact yMk h
 ·exact yRF h
 ·exact yOZ h
structure Ev (P:Program) (W:World) (n:Nat) (E:Env) (H:List SP) (op:Op) (v:Value):Prop where
 go:∀ o:Oper,o.op=op→∀ a w,Hd n E a→St W H w→(execOp a.eval o).run P w=.ok (.value v) w
theorem yZn {v:Value} {d:Nat} (he:Ev P W n E H op v) (hn:Nat.blt d n=true) (h:KJ W n k ((d,v)::E) H):KJ W n (.oper P op (some d) k) E H:=by refine ⟨fun a w p s o ho hd=>?_⟩;show uponP P o a _ ((execOp a.eval o).run P w);rw [he.go o ho a w p s.left];have:=h.go _ w (p.put (d:=some d) hn v) s;rw [← hd] at this;exact this
theorem xBb {v:Value} (he:Ev P W n E H op v) (h:KJ W n k E H):KJ W n (.oper P op none k) E H:=by refine ⟨fun a w p s o ho hd=>?_⟩;show uponP P o a _ ((execOp a.eval o).run P w);rw [he.go o ho a w p s.left];have:=h.go _ w (p.put (d:=none) rfl v) s;rw [← hd] at this;exact this
end
theorem yIx {x:Operand} {v:Value} (hx:Env.ev E x=some v):Ev P W n E H (.move x) v:=Ev.mk fun o ho a w p _=>by simp [execOp,ho,p.ev hx,Sem.run_pure]
theorem yTu {x:Operand} {v:Value} (hx:Env.ev E x=some v):Ev P W n E H (.assign x) v:=Ev.mk fun o ho a w p _=>by simp [execOp,ho,p.ev hx,Sem.run_pure]
theorem yTv {c x y:Operand} {v:Value} (hc:Env.ev E c=some (.bool true)) (hx:Env.ev E x=some v):Ev P W n E H (.pick c x y) v:=Ev.mk fun o ho a w p _=>by simp [execOp,ho,p.ev hx,p.ev hc,asBool,Sem.run_pure]
theorem yTw {c x y:Operand} {v:Value} (hc:Env.ev E c=some (.bool false)) (hy:Env.ev E y=some v):Ev P W n E H (.pick c x y) v:=Ev.mk fun o ho a w p _=>by simp [execOp,ho,p.ev hy,p.ev hc,asBool,Sem.run_pure]
theorem yHg {x:Operand} {ad:Addr} (hx:Env.ev E x=some (.pointer (some ad))):Ev P W n E H (.nilCheck x) (.pointer (some ad)):=Ev.mk fun o ho a w p _=>by simp [execOp,ho,p.ev hx,Sem.run_pure]
theorem yQq {t u:TypeId} {x y:Operand} {k:IntKind} {i j:Int} (hx:Env.ev E x=some (.int k i)) (hy:Env.ev E y=some (.int k j)):Ev P W n E H (.binOp .add t x y u) (.int k (k.wrap (i+j))):=
 Ev.mk fun o ho a w p _=>by simp [execOp,ho,p.ev hx,p.ev hy,eqGuard,binOp,Op.intArith]
end
end Go.Proofs.YtoipmnikdiogcaaGreatDoor
