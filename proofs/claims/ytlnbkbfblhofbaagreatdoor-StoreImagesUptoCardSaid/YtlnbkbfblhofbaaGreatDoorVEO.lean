/-
  StV1, StD0.
-/
import Derived.Test.YtlnbkbfblhofbaaGreatDoorVHS
import Derived.Test.YtlnbkbfblhofbaaGreatDoorVEN
set_option maxHeartbeats 64000000
namespace Go.Proofs.YtlnbkbfblhofbaaGreatDoor
open Go Go.RowKit
def yRh (n room:Nat) (s:List UInt8):Option Nat:=match ru s with
 |.bad _=>none
 |.ok m t=>match ru t with
  |.bad _=>none
  |.ok k u=>if k≤room∧u=[]∧m=n then some k else none
theorem yTG {n room k:Nat} {s:List UInt8} (h:yRh n room s=some k):s=yBd n k∧k≤room:=by
 unfold yRh at h
 split at h
 ·cases h
 ·rename_i m t h1
  split at h
  ·cases h
  ·rename_i k' u h2
   split at h
   ·rename_i hc
    obtain ⟨c1,c2,c3⟩:=hc
    cases h
    subst c2;subst c3
    have e1:=(yGO h1).1
    have e2:=(yGO h2).1
    rw [zLs] at e2
    refine ⟨?_,c1⟩
    unfold yBd
    rw [e1,e2]
   ·cases h
def yM6 (most:Nat):Nat→Bool→List UInt8→List UInt8→Option Rows
 |0,_,_,l=>if l=[] then some [] else none
 |k+1,fst,last,l=>match rtx most l with
  |.bad _=>none
  |.ok key t=>match rtx most t with
   |.bad _=>none
   |.ok v u=>if fst=true∨Op.bytesLess last key=true then (match yM6 most k false key u with|none=>none|some r=>some ((key,v)::r)) else none
theorem yYk {most:Nat}:∀ (k:Nat) (fst:Bool) (last l:List UInt8) (r:Rows),yM6 most k fst last l=some r→
 l=r.flatMap rowB∧r.length=k∧RisR r∧(fst=false→∀ p ∈ r,Op.bytesLess last p.1=true):=by
 intro k
 induction k with
 |zero=>
  intro fst last l r h
  unfold yM6 at h
  split at h
  ·rename_i h0
   cases h
   exact ⟨by rw [h0];rfl,rfl,List.Pairwise.nil,fun _ p hp=>(by cases hp)⟩
  ·cases h
 |succ k ih=>
  intro fst last l r h
  unfold yM6 at h
  split at h
  ·cases h
  ·rename_i key t h1
   split at h
   ·cases h
   ·rename_i v u h2
    split at h
    ·rename_i hc
     split at h
     ·cases h
     ·rename_i r' h3
      cases h
      obtain ⟨a1,a2,a3,a4⟩:=ih _ _ _ _ h3
      refine ⟨?_,by rw [zLj,a2],List.pairwise_cons.2 ⟨fun p hp=>a4 rfl p hp,a3⟩,fun hf p hp=>?_⟩
      ·rw [(yKb h1).1,(yKb h2).1,a1,zLr]
       unfold rowB
       rw [zLd]
      ·have hl:Op.bytesLess last key=true:=hc.resolve_left (by rw [hf];simp)
       rcases zLm.1 hp with rfl|q
       ·exact hl
       ·exact yGN hl (a4 rfl p q)
    ·cases h
def yF0 (s:List UInt8):Option Rows:=match ru s with
 |.bad _=>none
 |.ok n t=>if n≤s.length then yM6 s.length n true [] t else none
theorem yPA {s:List UInt8} {r:Rows} (h:yF0 s=some r):s=yAh r∧RisR r:=by
 unfold yF0 at h
 split at h
 ·cases h
 ·rename_i n t h1
  split at h
  ·obtain ⟨a1,a2,a3,-⟩:=yYk _ _ _ _ _ h
   refine ⟨?_,a3⟩
   rw [(yGO h1).1,a1]
   unfold yAh
   rw [a2]
  ·cases h
theorem yJK {stamp:Int} {raw p:List UInt8} (h:yBU stamp raw=some p):p.length≤234:=by
 unfold yBU at h
 split at h
 ·cases h
 split at h
 ·cases h
 rename_i hl
 split at h
 ·cases h
 rename_i h2
 split at h
 ·cases h
  rw [yD7 raw zO zO];omega
 ·cases h
theorem yPB {D:Dsk} {at_ n:Int} {ver i:Nat} {p:List UInt8} (h:yCG D at_ n ver i=some p):p.length≤234:=by
 unfold yCG at h
 split at h
 ·cases h
 split at h
 ·cases h
 exact yJK h
theorem yTH {D:Dsk} {at_ n:Int} {ver i:Nat} {size:Int}:∀ (f k:Nat) (out s:List UInt8),yDX D at_ n ver i size f k out=some s→s.length≤out.length+233*f:=by
 intro f
 induction f with
 |zero=>intro k out s h;unfold yDX at h;cases h;omega
 |succ f ih=>
  intro k out s h
  unfold yDX at h
  split at h
  ·cases h
  ·rename_i q hq
   have hl:=yPB hq
   split at h
   ·cases h
   split at h
   ·cases h
   ·have:=ih _ _ _ h
    rw [zLa,zLf] at this
    omega
theorem yVS {D:Dsk} {at_ n:Int} {ver i:Nat} {s:List UInt8} {u:Int} (h:yEF D at_ n ver i=some (s,u)):(s.length:Int)≤233*u:=by
 have hu:=yFn h
 unfold yEF at h
 split at h
 ·cases h
 split at h
 ·cases h
 split at h
 ·cases h
 split at h
 ·cases h
 split at h
 ·cases h
 split at h
 ·cases h
 rename_i q hq h5 h6 h1 h2 x s' hs'
 simp only [Option.some.injEq,Prod.mk.injEq] at h
 obtain ⟨rfl,e⟩:=h
 have hl:=yPB hq
 have h3:=yTH _ _ _ _ hs'
 rw [zLf] at h3
 rw [e] at h3
 omega
theorem yHk {D:Dsk} {at_ n:Int} {ver:Nat}:∀ (f i:Nat) (acc:List (List UInt8)) (c:Nat),(∀ x ∈ acc,(x.length:Int)≤233*n)→acc.length≤c→(∀ x ∈ yEY D at_ n ver f i acc,(x.length:Int)≤233*n)∧(yEY D at_ n ver f i acc).length≤c+f:=by
 intro f
 induction f with
 |zero=>intro i acc c h hc;exact ⟨h,by unfold yEY;omega⟩
 |succ f ih=>
  intro i acc c h hc
  unfold yEY
  split
  ·exact ⟨h,zO⟩
  ·rename_i s u hs
   have h1:=yVS hs
   have h2:=yFn hs
   have:=ih (i+u.toNat) (acc++[s]) (c+1) (fun x hx=>by
    rcases List.mem_append.1 hx with q|q
    ·exact h x q
    ·rw [List.mem_singleton] at q
     subst q
     omega) (by rw [zLa,List.length_singleton];omega)
   exact ⟨this.1,zO⟩
theorem yQQ (raw:List UInt8) (k:Int):(yCu raw k).length≤234:=by
 unfold yCu yCA
 split
 ·simp
 split
 ·simp
 split
 ·simp
 split
 ·simp
 split
 ·simp
 ·cases h:yBU (yCt raw 8) raw with
  |none=>simp
  |some p=>
   have:=yJK h
   simpa using this
theorem yOz (D:Dsk) (a:Nat):∀ k,(yBv D a k).length≤234:=by
 intro k
 induction k with
 |zero=>simp [yBv]
 |succ k ih=>
  unfold yBv
  split
  ·exact yQQ _ _
  ·exact ih
theorem yM7 (D:Dsk) (a:Int):(yBt D a).length≤234:=by
 unfold yBt
 split
 ·exact yOz _ _ _
 ·simp
theorem yQR (ops:List BOp):2*ops.length≤(yDR ops).length:=by
 induction ops with
 |nil=>simp [yDR]
 |cons o l ih=>
  have e:yDR (o::l)=yDw o++yDR l:=by unfold yDR;rw [zLr]
  have:=yJj o
  rw [e,zLa,zLj];omega
theorem yDn (s:List UInt8):2*(yAE s).1.length≤s.length:=by
 rcases yIg s with ⟨_,h⟩|⟨n,t,os,h1,h2,h3⟩
 ·rw [h];simp
 ·rw [h3]
  have e1:=congrArg List.length (yGO h1).1
  have e2:=congrArg List.length (yHK n h2).1
  have:=yQR os
  simp only [zLa] at e1 e2
  dsimp only
  omega
theorem yYl (s:List UInt8):(yAE s).2≤7:=by
 unfold yAE
 cases h:ru s with
 |bad e=>dsimp only;rcases yC2 h with h|h <;> omega
 |ok n t=>
  dsimp only
  cases h2:yDj n true [] t with
  |ok os u=>dsimp only;split <;> simp
  |bad e=>
   dsimp only
   have key:∀ (n:Nat) (f:Bool) (last l:List UInt8) (e:Nat),yDj n f last l=.bad e→e≤7:=fun n=>by
    induction n with
    |zero=>intro f last l e h;cases h
    |succ n ih=>
     intro f last l e h
     unfold yDj at h
     cases h1:yHs f last l with
     |bad e'=>rw [h1] at h;cases h;have:=yLz h1;omega
     |ok o u=>
      rw [h1] at h
      dsimp only at h
      cases h3:yDj n false o.key u with
      |bad e'=>rw [h3] at h;cases h;exact ih _ _ _ _ h3
      |ok os w=>rw [h3] at h;cases h
   exact key n true [] t e h2
structure LiesO (n:Nat) (D:Dsk) (r0:Rows) (recs:List (List UInt8)) (v:Nat) (r:Rows):Prop where
 e:yA9 D 0=0
 nv:yBC D 0=v
 v1:1≤v∧v≤1099511627776
 s:yBt D 0=yBd n (yAh r0).length
 area:yBH D (yAt n v) (yAu n) v (yAh r0).length=(yAh r0,0)
 ris0:RisR r0
 room0:(yAh r0).length≤234*yAu n
 rp:yEY D (yAK n:Nat) (yA2 n:Nat) v (((yA2 n:Nat):Int).toNat+1) 0 []=recs
 dec:∀ x ∈ recs,(yAE x).2=0
 is_:lgR r0 recs recs.length=r
 room:(yAh r).length≤234*yAu n
inductive Bad (n:Nat) (D:Dsk):Nat→Prop
 |slot (e:Nat) (h:yA9 D 0=e) (hne:e≠0):Bad n D e
 |hdr (h:yA9 D 0=0) (hh:yRh n (234*yAu n) (yBt D 0)=none):Bad n D 15
 |area (v k:Nat) (h:yA9 D 0=0) (hv:yBC D 0=v) (v1:1≤v∧v≤1099511627776) (hh:yBt D 0=yBd n k) (hk:k≤234*yAu n) (ha:yBH D (yAt n v) (yAu n) v k=([],15)):Bad n D 15
 |rows (v k:Nat) (s:List UInt8) (h:yA9 D 0=0) (hv:yBC D 0=v) (v1:1≤v∧v≤1099511627776) (hh:yBt D 0=yBd n k) (hk:k≤234*yAu n) (ha:yBH D (yAt n v) (yAu n) v k=(s,0)) (hs:s.length≤234*yAu n) (hr:yF0 s=none):Bad n D 15
 |bat (v:Nat) (r0:Rows) (recs:List (List UInt8)) (i:Nat) (h:yA9 D 0=0) (hv:yBC D 0=v) (v1:1≤v∧v≤1099511627776) (hh:yBt D 0=yBd n (yAh r0).length) (hk:(yAh r0).length≤234*yAu n) (ha:yBH D (yAt n v) (yAu n) v (yAh r0).length=(yAh r0,0)) (hr:RisR r0) (rp:yEY D (yAK n:Nat) (yA2 n:Nat) v (((yA2 n:Nat):Int).toNat+1) 0 []=recs) (hi:i<recs.length) (hb:∀ x,recs[i]? = some x→(yAE x).2≠0) (hg:∀ j x,j<i→recs[j]? = some x→(yAE x).2=0):Bad n D 15
 |room (v:Nat) (r0:Rows) (recs:List (List UInt8)) (h:yA9 D 0=0) (hv:yBC D 0=v) (v1:1≤v∧v≤1099511627776) (hh:yBt D 0=yBd n (yAh r0).length) (hk:(yAh r0).length≤234*yAu n) (ha:yBH D (yAt n v) (yAu n) v (yAh r0).length=(yAh r0,0)) (hr:RisR r0) (rp:yEY D (yAK n:Nat) (yA2 n:Nat) v (((yA2 n:Nat):Int).toNat+1) 0 []=recs) (hd:∀ x ∈ recs,(yAE x).2=0) (hb:234*yAu n<(yAh (lgR r0 recs recs.length)).length):Bad n D 15
theorem yTI (recs:List (List UInt8)):(∀ x ∈ recs,(yAE x).2=0)∨∃ i,i<recs.length∧(∀ x,recs[i]? = some x→(yAE x).2≠0)∧∀ j x,j<i→recs[j]? = some x→(yAE x).2=0:=by
 induction recs with
 |nil=>exact .inl fun x hx=>by cases hx
 |cons y l ih=>
  by_cases hy:(yAE y).2=0
  ·rcases ih with h|⟨i,h1,h2,h3⟩
   ·left
    intro x hx
    rcases zLm.1 hx with rfl|q
    ·exact hy
    ·exact h x q
   ·right
    refine ⟨i+1,by rw [zLj];omega,fun x hx=>h2 x (by simpa using hx),fun j x hj hx=>?_⟩
    cases j with
    |zero=>simp at hx;subst hx;exact hy
    |succ j=>exact h3 j x zO (by simpa using hx)
  ·exact .inr ⟨0,by simp,fun x hx=>by simp at hx;subst hx;exact hy,fun j x hj _=>by omega⟩
theorem yQS {D:Dsk} (hon:D.off=false) (a s b:Int) (m:Nat) (ha:0≤a) (hm:a+m≤D.n):∀ (f i:Nat) (acc:List UInt8),i+f≤m→(acc.length:Int)=min b (234*(i:Int))→yLs D a s b f i acc=([],15)∨∃ o,yLs D a s b f i acc=(o,0)∧(o.length:Int)=min b (234*((i+f:Nat):Int)):=by
 intro f
 induction f with
 |zero=>intro i acc _ hl;exact .inr ⟨acc,rfl,by rw [hl,zLz]⟩
 |succ f ih=>
  intro i acc hi hacc
  have h0:D.readE (a+i)=0:=by
   unfold Dsk.readE
   rw [hon,show D.has (a+i)=true from zY zO]
   rfl
  unfold yLs
  rw [if_neg (by rw [h0];simp)]
  split
  ·exact .inl rfl
  ·rename_i pc hpc
   have hl:=yJK hpc
   split
   ·exact .inl rfl
   ·rename_i hpl
    rcases ih (i+1) (acc++pc) zO (by rw [zLa];omega) with h|⟨o,h,hle⟩
    ·exact .inl h
    ·exact .inr ⟨o,h,by rw [hle];congr 3;omega⟩
theorem yOA {D:Dsk} (hon:D.off=false) (a n s k:Nat) (ha:a+n≤D.n) (hs:1≤s) (hk:k≤234*n) (hn:n≤65536):yBH D a n s k=([],15)∨∃ o,yBH D a n s k=(o,0)∧o.length=k:=by
 have hm:D.mayB a n=true:=by unfold Dsk.mayB;exact zY zO
 have hroom:yCb n=234*n:=by unfold yCb;omega
 have hsec:(yBR k).toNat≤n∧(k:Int)≤234*((yBR k).toNat:Int):=by unfold yBR;split <;> omega
 unfold yBH
 rw [if_neg (by rw [hm];simp),if_neg zO,if_neg zO,if_neg zO,if_neg (by rw [hon];simp)]
 rcases yQS hon (a:Int) (s:Int) (k:Int) n zO zO (yBR k).toNat 0 [] zO (by simp;omega) with h|⟨o,h,hl⟩
 ·exact .inl h
 ·refine .inr ⟨o,h,?_⟩
  rw [zLq] at hl
  omega
theorem yTJ {D:Dsk} (h:yA9 D 0=0):∃ v:Nat,yBC D 0=v∧1≤v∧v≤1099511627776:=by
 have hb:=yGa D 0 2
 have e:yBC D 0=yAL D 0 2:=if_pos h
 have hne:yAL D 0 2≠0:=fun q=>by
  unfold yA9 at h
  split at h
  ·cases h
  split at h
  ·cases h
  rw [show (0:Int).toNat=0 from rfl,if_pos q] at h
  cases h
 exact ⟨(yAL D 0 2).toNat,by rw [e];omega,zO,zO⟩
theorem yQT {n:Nat} {D:Dsk} (hon:D.off=false) (hn:D.n=n) (h1:64≤n) (h2:n≤65536):(∃ r0 recs v r,LiesO n D r0 recs v r)∨∃ e,Bad n D e:=by
 by_cases hs:yA9 D 0=0
 rotate_left
 ·exact .inr ⟨_,.slot _ rfl hs⟩
 obtain ⟨v,hv,v1⟩:=yTJ hs
 obtain ⟨f1,f2,f3,f4⟩:=yAO h1 v
 have hlA:yAu n≤65536:=by unfold yAu;omega
 cases hh:yRh n (234*yAu n) (yBt D 0) with
 |none=>exact .inr ⟨15,.hdr hs hh⟩
 |some k=>
  obtain ⟨hh1,hk⟩:=yTG hh
  rcases yOA hon (yAt n v) (yAu n) v k zO v1.1 hk hlA with ha|⟨s,ha,hsl⟩
  ·exact .inr ⟨15,.area v k hs hv v1 hh1 hk ha⟩
  ·cases hr:yF0 s with
   |none=>exact .inr ⟨15,.rows v k s hs hv v1 hh1 hk ha zO hr⟩
   |some r0=>
    obtain ⟨e,hris⟩:=yPA hr
    subst e
    subst hsl
    rcases yTI (yEY D (yAK n:Nat) (yA2 n:Nat) v (((yA2 n:Nat):Int).toNat+1) 0 []) with hd|⟨i,hi,hb,hg⟩
    ·by_cases hroom:(yAh (lgR r0 (yEY D (yAK n:Nat) (yA2 n:Nat) v (((yA2 n:Nat):Int).toNat+1) 0 []) (yEY D (yAK n:Nat) (yA2 n:Nat) v (((yA2 n:Nat):Int).toNat+1) 0 []).length)).length≤234*yAu n
     ·exact .inl ⟨r0,_,v,_,hs,hv,v1,hh1,ha,hris,hk,rfl,hd,rfl,hroom⟩
     ·exact .inr ⟨15,.room v r0 _ hs hv v1 hh1 hk ha hris rfl hd zO⟩
    ·exact .inr ⟨15,.bat v r0 _ i hs hv v1 hh1 hk ha hris rfl hi hb hg⟩
theorem yPC {D:Dsk} (h:D.und=[]) (k:Nat):D.rd k=D.sec k:=by unfold Dsk.rd;rw [h];rfl
theorem yYm {a b:List UInt8} (ha:a.length=256):(Dsk.of (a++b)).sec 0=a:=by
 show cut (a++b) (0*256) 256=a
 unfold cut
 rw [Nat.zero_mul,zLo,List.take_append_of_le_length zO,zLi zO]
theorem yYn {a b:List UInt8} (ha:a.length=256) (hb:b.length=256):(Dsk.of (a++b)).sec 1=b:=by
 show cut (a++b) (1*256) 256=b
 unfold cut
 rw [List.drop_append_of_le_length zO,zLl zO,List.nil_append,zLi zO]
theorem yQU {D D':Dsk} (h0:D.rd 0=D'.rd 0) (h1:D.rd 1=D'.rd 1):yAL D 0 2=yAL D' 0 2∧yBv D 0 2=yBv D' 0 2:=by
 have e:∀ k,k<2→D.rd (0+k)=D'.rd (0+k):=fun k hk=>by
  rw [zLq]
  rcases (show k=0∨k=1 by omega) with rfl|rfl
  ·exact h0
  ·exact h1
 have g1:yAL D 0 1=yAL D' 0 1:=by
  unfold yAL
  rw [e 0 zO]
  rfl
 have g2:yBv D 0 1=yBv D' 0 1:=by
  unfold yBv
  rw [e 0 zO]
  rfl
 constructor
 ·unfold yAL
  rw [e 1 zO,g1]
 ·unfold yBv
  rw [e 1 zO,g1,g2]
theorem yVT {D:Dsk} (h:Still D) (hn:2≤D.n):yA9 (Dsk.of (D.sec 0++D.sec 1)) 0=yA9 D 0∧yBC (Dsk.of (D.sec 0++D.sec 1)) 0=yBC D 0∧yBt (Dsk.of (D.sec 0++D.sec 1)) 0=yBt D 0:=by
 have hl:=h.ok.len
 have l0:(D.sec 0).length=256:=yBq _ _ _ zO
 have l1:(D.sec 1).length=256:=yBq _ _ _ zO
 have r0:(Dsk.of (D.sec 0++D.sec 1)).rd 0=D.rd 0:=by rw [yPC rfl,yPC h.und,yYm l0]
 have r1:(Dsk.of (D.sec 0++D.sec 1)).rd 1=D.rd 1:=by rw [yPC rfl,yPC h.und,yYn l0 l1]
 obtain ⟨v1,v2⟩:=yQU r0 r1
 have hn2:(Dsk.of (D.sec 0++D.sec 1)).n=2:=by
  show (D.sec 0++D.sec 1).length / 256=2
  rw [zLa,l0,l1]
 have m0:(Dsk.of (D.sec 0++D.sec 1)).roomB 0=true:=by unfold Dsk.roomB;exact zY zO
 have m1:D.roomB 0=true:=by unfold Dsk.roomB;exact zY zO
 have hE:yA9 (Dsk.of (D.sec 0++D.sec 1)) 0=yA9 D 0:=by
  unfold yA9
  rw [m0,m1,h.on,show (Dsk.of (D.sec 0++D.sec 1)).off=false from rfl,show (0:Int).toNat=0 from rfl,v1]
 refine ⟨hE,?_,?_⟩
 ·unfold yBC
  rw [hE,show (0:Int).toNat=0 from rfl,v1]
 ·unfold yBt
  rw [hE,show (0:Int).toNat=0 from rfl,v2]
end Go.Proofs.YtlnbkbfblhofbaaGreatDoor
