/-
  Calm, Calm8, Keep, AreL.
-/
import Derived.Test.YtlnbkbfblhofbaaGreatDoorVBT
set_option maxHeartbeats 64000000
namespace Go.Proofs.YtlnbkbfblhofbaaGreatDoor
open Go Go.RowKit
def yJS (D:Dsk):Prop:=D.off=false∧D.armed=-1
theorem yG0 {D:Dsk} (h:yJS D):D.gone=D:=by
 obtain ⟨h1,h2⟩:=h
 unfold Dsk.gone
 rw [if_neg zO,if_neg zO]
theorem yEr {D:Dsk} (h:yJS D):D.dead=false:=by simp [Dsk.dead,h.2]
theorem yQn (n:Nat):yJS (Dsk.blank n):=⟨rfl,rfl⟩
theorem yEP {D:Dsk} (h:yJS D) (i:Int) (s:List UInt8):yJS (D.writeD i s)∧(D.writeD i s).n=D.n:=by
 have h1:yJS ({ D with und:=D.und++[(i.toNat,s)] }:Dsk):=h
 unfold Dsk.writeD
 split
 ·exact ⟨h,rfl⟩
 split
 ·split
  ·simp only [yEr h,yG0 h1]
   exact ⟨h,rfl⟩
  ·exact ⟨h,rfl⟩
 ·exact ⟨h,rfl⟩
theorem yI7 {D:Dsk} (h:yJS D):yJS D.flushD∧D.flushD.n=D.n∧D.flushE=0∧D.flushD.und=[]∧D.flushD.img=yBe D.img D.und:=by
 have e:D.flushD={ D with img:=yBe D.img D.und,und:=[],flushes:=w64 (D.flushes+1) }:=by
  unfold Dsk.flushD
  rw [if_neg (by rw [h.1];simp),if_neg (by rw [yEr h];simp),yG0 h]
 rw [e]
 refine ⟨h,rfl,?_,rfl,rfl⟩
 simp [Dsk.flushE,h.1,yEr h]
theorem yQo {D:Dsk} (h:yJS D) (hu:D.und=[]) (i:Nat) (hi:i<D.n):D.readE i=0∧D.readS i=cut D.img (i*256) 256:=by
 have h1:D.has (i:Int)=true:=by simp [Dsk.has,hi]
 constructor
 ·simp [Dsk.readE,h.1,h1]
 ·simp [Dsk.readS,h.1,h1,Dsk.rd,hu,yGz,Dsk.sec]
theorem yU8 (l:List UInt8) (i:Nat):l.take (256*i)++cut l (i*256) 256=l.take (256*(i+1)):=by
 rw [show 256*(i+1)=256*i+256 by omega,List.take_add,cut,Nat.mul_comm i 256]
theorem yN4 (D:Dsk) (hu:D.und=[]) (kept:List Bool) (torn bytes:Int):(D.crash kept torn bytes).img=D.img:=by
 simp [Dsk.crash,hu,yGi]
structure Rest (D:Dsk):Prop where
 calm:yJS D
 und:D.und=[]
 ok:D.ok
theorem Rest.rd {D:Dsk} (h:Rest D) (i:Nat):D.rd i=D.sec i:=by simp [Dsk.rd,h.und,yGz]
theorem yEs {D:Dsk} (h:Rest D) (a v:Nat) (s:List UInt8) (ha:a+2≤D.n) (hv:1≤v) (hv2:v≤1099511627776) (hs:s.length≤234) :
 yBu D a v s=0∧Rest (yA6 D a v s)∧(yA6 D a v s).n=D.n∧(yA6 D a v s).sec (a+v % 2)=yAx v s∧∀ j,j≠a+v % 2→j<D.n→(yA6 D a v s).sec j=D.sec j:=by
 have hn:=h.ok.n2
 have hroom:D.roomB (a:Int)=true:=by unfold Dsk.roomB;exact zY zO
 have hmay:yCg D (a:Int) (v:Int)=true:=by
  unfold yCg;rw [hroom,zY (show (1:Int)≤v by omega),zY (show (v:Int)≤1099511627776 by omega)];rfl
 have hb:¬ (yCg D (a:Int) (v:Int)=false):=by rw [hmay];simp
 have hi:((a:Int)+(v:Int) % 2)=((a+v % 2:Nat):Int):=zO
 have hlen:=yAV (v:Int) s hs
 have hi2:a+v % 2<D.n:=zO
 have hhas:D.has ((a+v % 2:Nat):Int)=true:=by unfold Dsk.has;exact zY zO
 have hwE:D.writeE ((a:Int)+(v:Int) % 2) (yAx v s)=0:=by
  rw [hi];unfold Dsk.writeE;rw [if_neg (by rw [h.calm.1];simp),if_pos hhas,if_pos hlen,if_neg (by rw [yEr h.calm];simp)]
 have hD1:yJS ({ D with und:=D.und++[(a+v % 2,yAx (v:Int) s)] }:Dsk):=h.calm
 have hw:yCV D (a:Int) (v:Int) s={ D with und:=[(a+v % 2,yAx (v:Int) s)],writes:=w64 (D.writes+1) }:=by
  unfold yCV Dsk.writeD
  rw [hi,if_neg (by rw [h.calm.1];simp),if_pos hhas,if_pos hlen]
  simp only [yEr h.calm,yG0 hD1,zLe]
  simp [h.und]
 have hok1:(yCV D (a:Int) (v:Int) s).ok:=Dsk.writeD_ok h.ok _ _
 have hc1:yJS (yCV D (a:Int) (v:Int) s):=by rw [hw];exact h.calm
 have hf:=yI7 hc1
 have hl:=h.ok.len
 have e1:yBu D a v s=0:=by
  unfold yBu
  rw [if_neg hb,if_neg zO,if_neg (by rw [hwE];simp)]
  exact hf.2.2.1
 have e2:yA6 D a v s=(yCV D (a:Int) (v:Int) s).flushD:=by
  unfold yA6
  rw [if_neg hb,if_neg zO,if_neg (by rw [hwE];simp)]
 have hn1:(yCV D (a:Int) (v:Int) s).n=D.n:=by rw [hw]
 have himg:(yA6 D a v s).img=lay D.img ((a+v % 2)*256) (yAx (v:Int) s):=by
  rw [e2,hf.2.2.2.2,hw];rfl
 refine ⟨e1,⟨by rw [e2];exact hf.1,by rw [e2];exact hf.2.2.2.1,by rw [e2];exact Dsk.flushD_ok hok1⟩,by rw [e2,hf.2.1,hn1],?_,fun j hj hjn=>?_⟩
 ·unfold Dsk.sec
  rw [himg]
  have:=yMq D.img (yAx (v:Int) s) ((a+v % 2)*256) (by rw [hlen];omega)
  rw [hlen] at this
  exact this
 ·unfold Dsk.sec
  rw [himg]
  rcases Nat.lt_or_ge j (a+v % 2) with hlt|hge
  ·exact yEh _ _ _ _ _ (by rw [hlen];omega) zO
  ·exact yDa _ _ _ _ _ (by rw [hlen];omega) (by rw [hlen];omega)
structure Holds (D:Dsk) (a c:Nat) (l:List UInt8):Prop where
 here:0<c→yCA (D.sec (a+c % 2)) ((c % 2:Nat):Int)=some ((c:Int),l)
 other:yAM (D.sec (a+(c+1) % 2)) (((c+1) % 2:Nat):Int)<(if c=0 then 1 else (c:Int))
 none_:c=0→yAM (D.sec a) 0=0
theorem Holds.told {D:Dsk} {a c:Nat} {l:List UInt8} (hr:Rest D) (ha:a+2≤D.n) (h:Holds D a c l) :
 yA9 D a=(if c=0 then 14 else 0)∧yBC D a=c∧yBt D a=(if c=0 then [] else l):=by
 have hroom:D.roomB (a:Int)=true:=by unfold Dsk.roomB;exact zY zO
 have b0:=yEN (D.sec a) 0
 have b1:=yEN (D.sec (a+1)) 1
 have hE:yA9 D a=if yAL D a 2=0 then 14 else 0:=by
  unfold yA9
  rw [if_neg (by rw [hroom];simp),if_neg (by rw [hr.calm.1];simp),zLe]
 have hV:yAL D a 2=if (if 0<yAM (D.sec a) 0 then yAM (D.sec a) 0 else 0)<yAM (D.sec (a+1)) 1 then yAM (D.sec (a+1)) 1 else (if 0<yAM (D.sec a) 0 then yAM (D.sec a) 0 else 0):=by
  simp only [yAL,hr.rd];rfl
 have hS:yBv D a 2=if (if 0<yAM (D.sec a) 0 then yAM (D.sec a) 0 else 0)<yAM (D.sec (a+1)) 1 then yCu (D.sec (a+1)) 1 else (if 0<yAM (D.sec a) 0 then yCu (D.sec a) 0 else []):=by
  simp only [yBv,yAL,hr.rd];rfl
 have hoth:=h.other
 unfold yBt yBC
 rw [hE,zLe]
 by_cases hc:c=0
 ·subst hc
  have h0:=h.none_ rfl
  simp only [zLq,if_true] at hoth
  have h1:yAM (D.sec (a+1)) 1=0:=by
   have:yAM (D.sec (a+1)) 1<1:=hoth
   omega
  have e:yAL D a 2=0:=by rw [hV,h0,h1];simp
  rw [e]
  simp
 ·have hh:=h.here zO
  rw [if_neg hc] at hoth
  rcases Nat.mod_two_eq_zero_or_one c with hm|hm
  ·have hm':(c+1) % 2=1:=by omega
   rw [hm] at hh
   rw [hm'] at hoth
   have hv0:yAM (D.sec a) 0=c:=by unfold yAM;rw [show yCA (D.sec a) 0=some ((c:Int),l) from hh];rfl
   have hs0:yCu (D.sec a) 0=l:=by unfold yCu;rw [show yCA (D.sec a) 0=some ((c:Int),l) from hh];rfl
   have ho:yAM (D.sec (a+1)) 1<c:=hoth
   have p0:(0:Int)<(c:Int):=zO
   have p1:¬ ((c:Int)<yAM (D.sec (a+1)) 1):=zO
   have e:yAL D a 2=c:=by rw [hV,hv0,if_pos p0,if_neg p1]
   have e3:yBv D a 2=l:=by rw [hS,hv0,if_pos p0,if_neg p1,if_pos p0,hs0]
   rw [e,e3,if_neg zO,if_neg hc,if_neg hc]
   simp
  ·have hm':(c+1) % 2=0:=by omega
   rw [hm] at hh
   rw [hm'] at hoth
   have hv1:yAM (D.sec (a+1)) 1=c:=by unfold yAM;rw [show yCA (D.sec (a+1)) 1=some ((c:Int),l) from hh];rfl
   have hs1:yCu (D.sec (a+1)) 1=l:=by unfold yCu;rw [show yCA (D.sec (a+1)) 1=some ((c:Int),l) from hh];rfl
   have ho:yAM (D.sec a) 0<c:=hoth
   have hlt:(if 0<yAM (D.sec a) 0 then yAM (D.sec a) 0 else 0)<(c:Int):=by split <;> omega
   have e:yAL D a 2=c:=by rw [hV,hv1,if_pos hlt]
   have e3:yBv D a 2=l:=by rw [hS,hv1,if_pos hlt,hs1]
   rw [e,e3,if_neg zO,if_neg hc,if_neg hc]
   simp
theorem Holds.keep {D D':Dsk} {a c:Nat} {l:List UInt8} (h:Holds D a c l) (hs:∀ k,k<2→D'.sec (a+k)=D.sec (a+k)):Holds D' a c l:=by
 have h0:D'.sec a=D.sec a:=hs 0 zO
 exact ⟨fun q=>by rw [hs _ (Nat.mod_lt _ zO)];exact h.here q,by rw [hs _ (Nat.mod_lt _ zO)];exact h.other,fun q=>by rw [h0];exact h.none_ q⟩
theorem Holds.next {D:Dsk} {a c:Nat} {l s:List UInt8} (hr:Rest D) (ha:a+2≤D.n) (h:Holds D a c l) (hc:c+1≤1099511627776) (hs:s.length≤234):Holds (yA6 D a (c+1:Nat) s) a (c+1) s:=by
 obtain ⟨_,_,_,h1,h2⟩:=yEs hr a (c+1) s ha zO hc hs
 refine ⟨fun _=>?_,?_,fun q=>by omega⟩
 ·rw [h1,show (((c+1) % 2:Nat):Int)=((c+1:Nat):Int) % 2 by omega]
  exact yKf (c+1) s hs zO hc
 ·have e:(c+1+1) % 2=c % 2:=by omega
  rw [e,h2 _ zO zO,if_neg zO]
  by_cases hz:c=0
  ·subst hz
   have:yAM (D.sec a) 0=0:=h.none_ rfl
   show yAM (D.sec a) 0<((0+1:Nat):Int)
   omega
  ·have hh:=h.here zO
   have:yAM (D.sec (a+c % 2)) ((c % 2:Nat):Int)=c:=by unfold yAM;rw [hh];rfl
   rw [this]
   omega
theorem yG1 (n i:Nat) (h:i<n):(Dsk.blank n).sec i=zs 256:=yY6 _ _ _ zO
theorem yN5:yAM (zs 256) 0=0:=zK
theorem yN6:yAM (zs 256) 1=0:=zK
theorem Holds.blank (n a:Nat) (h:a+2≤n):Holds (Dsk.blank n) a 0 []:=by
 refine ⟨fun q=>by omega,?_,fun _=>?_⟩
 ·show yAM ((Dsk.blank n).sec (a+1)) 1<1
  rw [yG1 _ _ zO,yN6]
  omega
 ·rw [yG1 _ _ zO,yN5]
theorem yHG (n:Nat) (h1:1≤n) (h2:n≤65536):Rest (Dsk.blank n):=⟨yQn n,rfl,Dsk.blank_ok n h1 h2⟩
theorem yEt (l:List UInt8) (n:Nat) (hn:n≤8):∃ v:Nat,v<2 ^ (8*n)∧yCt l n=(v:Int)∧∀ i,i<n→l.getD i 0=yCs (v:Int) i:=by
 induction n with
 |zero=>exact ⟨0,by simp,rfl,fun i hi=>by omega⟩
 |succ n ih=>
  obtain ⟨v,hv,hg,hb⟩:=ih zO
  have hc:=zLy (l.getD n 0)
  obtain ⟨c,hcc⟩:∃ c,c=(l.getD n 0).toNat:=⟨_,rfl⟩
  refine ⟨v+(l.getD n 0).toNat*2 ^ (8*n),?_,?_,fun i hi=>?_⟩
  ·rw [← hcc]
   rw [← hcc] at hc
   rw [show 8*(n+1)=8*n+8 by omega,Nat.pow_add]
   have h1:v+c*2 ^ (8*n)<(1+c)*2 ^ (8*n):=by rw [Nat.add_mul];omega
   have h2:(1+c)*2 ^ (8*n)≤256*2 ^ (8*n):=zLt _ zO
   rw [Nat.mul_comm _ (2 ^ 8)]
   omega
  ·show yDN (yCt l n) n (l.getD n 0)=_
   rw [hg,yEO _ _ _ zO hv]
  ·apply UInt8.toNat_inj.1
   rw [yCo _ _ zO]
   rcases Nat.lt_or_ge i n with h|h
   ·have h0:=congrArg UInt8.toNat (hb i h)
    rw [yCo _ _ zO] at h0
    rw [h0,← hcc]
    have e:c*2 ^ (8*n)=(c*2 ^ (8*(n-i-1))*256)*2 ^ (8*i):=by
     rw [Nat.mul_assoc,Nat.mul_assoc]
     congr 1
     rw [← Nat.mul_assoc,show (256:Nat)=2 ^ 8 from rfl,← Nat.pow_add,← Nat.pow_add]
     congr 1
     omega
    rw [e,Nat.add_mul_div_right _ _ (Nat.two_pow_pos _),Nat.add_mul_mod_self_right]
   ·have:i=n:=by omega
    subst this
    rw [← hcc]
    rw [← hcc] at hc
    rw [Nat.add_mul_div_right _ _ (Nat.two_pow_pos _),Nat.div_eq_of_lt hv,zLq,Nat.mod_eq_of_lt hc,hcc]
theorem yU9 (a b:List UInt8) (h:a.length=b.length) (e:∀ i,i<a.length→a.getD i 0=b.getD i 0):a=b:=by
 apply List.ext_getElem h
 intro i h1 h2
 have:=e i h1
 rw [List.getD,zLb h1,List.getD,zLb h2] at this
 simpa using this
def yE2 (new old:List UInt8) (k:Nat):List UInt8:=new.take k++old.drop k
theorem yN7 {new old:List UInt8} {k:Nat} (h1:new.length=256) (h2:old.length=256) (hk:k≤256):(yE2 new old k).length=256:=by
 simp [yE2];omega
theorem yO9 {new old:List UInt8} {k:Nat} (h1:new.length=256) (hk:k≤256) (i:Nat):(yE2 new old k).getD i 0=if i<k then new.getD i 0 else old.getD i 0:=by
 unfold yE2
 simp only [List.getD]
 split
 ·rw [zLp (by simp;omega),List.getElem?_take_of_lt zO]
 ·rw [zLn (by simp;omega),zLg,Nat.min_eq_left zO,zLC]
  congr 2
  omega
structure Old (c:Nat) (old:List UInt8):Prop where
 len:old.length=256
 tail:∀ i,i<8→old.getD (248+i) 0=yCs ((c-1:Nat):Int) i
structure Still (D:Dsk):Prop where
 on:D.off=false
 und:D.und=[]
 ok:D.ok
theorem Still.rest {D:Dsk} (h:Still D):Rest ({ D with armed:=-1 }:Dsk):=⟨⟨h.on,rfl⟩,h.und,⟨h.ok.n1,h.ok.n2,h.ok.len,h.ok.und,by simp,by simp⟩⟩
theorem Still.told {D:Dsk} {a c:Nat} {l:List UInt8} (hr:Still D) (ha:a+2≤D.n) (h:Holds D a c l) :
 yA9 D a=(if c=0 then 14 else 0)∧yBC D a=c∧yBt D a=(if c=0 then [] else l):=
 Holds.told (D:={ D with armed:=-1 }) hr.rest ha ⟨h.here,h.other,h.none_⟩
theorem yQp {D:Dsk} (h:Still D) (a v:Nat) (s:List UInt8) (ha:a+2≤D.n) (hv:1≤v) (hv2:v≤1099511627776) (hs:s.length≤234) :
 (D.armed=0→yBu D a v s=12∧yA6 D a v s={ D with off:=true,und:=[(a+v % 2,yAx v s)] })∧
 (D.armed=1→yBu D a v s=12∧yA6 D a v s={ D with armed:=0,off:=true,und:=[(a+v % 2,yAx v s)],writes:=w64 (D.writes+1) })∧
 (D.armed≠0→D.armed≠1→yBu D a v s=0∧∃ r,yA6 D a v s={ D with armed:=r,img:=lay D.img ((a+v % 2)*256) (yAx v s),writes:=w64 (D.writes+1),flushes:=w64 (D.flushes+1) }):=by
 have hroom:D.roomB (a:Int)=true:=by unfold Dsk.roomB;exact zY zO
 have hmay:yCg D (a:Int) (v:Int)=true:=by
  unfold yCg;rw [hroom,zY (show (1:Int)≤v by omega),zY (show (v:Int)≤1099511627776 by omega)];rfl
 have hi:((a:Int)+(v:Int) % 2)=((a+v % 2:Nat):Int):=zO
 have hlen:=yAV (v:Int) s hs
 have hhas:D.has ((a+v % 2:Nat):Int)=true:=by unfold Dsk.has;exact zY zO
 have ha1:=h.ok.arm1
 obtain ⟨n,img,und,off,armed,wr,fl,lf⟩:=D
 obtain rfl:off=false:=h.on
 obtain rfl:und=[]:=h.und
 have hb:¬ (yCg ({ n:=n,img:=img,und:=[],off:=false,armed:=armed,writes:=wr,flushes:=fl,life:=lf }:Dsk) (a:Int) (v:Int)=false):=by rw [hmay];simp
 obtain ⟨q,hq⟩:∃ q,q=yAx (v:Int) s:=⟨_,rfl⟩
 have h234:¬ (234<s.length):=zO
 unfold yBu yA6 yCV
 rw [if_neg hb,if_neg h234,if_neg hb,if_neg h234,hi,← hq]
 rw [← hq] at hlen
 obtain ⟨i,hii⟩:∃ i,i=a+v % 2:=⟨_,rfl⟩
 rw [← hii] at hhas ⊢
 dsimp only at ha1
 refine ⟨fun h0=>?_,fun h0=>?_,fun h0 h1=>?_⟩
 ·dsimp only at h0
  subst h0
  simp [Dsk.writeE,Dsk.writeD,Dsk.dead,Dsk.gone,hhas,hlen]
 ·dsimp only at h0
  subst h0
  simp [Dsk.writeE,Dsk.writeD,Dsk.flushE,Dsk.flushD,Dsk.dead,Dsk.gone,hhas,hlen]
 ·dsimp only at h0 h1
  by_cases hp:0<armed
  ·have h2:0<armed-1:=by omega
   have h3:¬ (armed-1=0):=zO
   have h4:1<armed:=zO
   simp [h4,Dsk.writeE,Dsk.writeD,Dsk.flushE,Dsk.flushD,Dsk.dead,Dsk.gone,hhas,hlen,h0,hp,h3,yBe]
  ·simp [Dsk.writeE,Dsk.writeD,Dsk.flushE,Dsk.flushD,Dsk.dead,Dsk.gone,hhas,hlen,h0,hp,yBe]
theorem zs_old:Old 0 (zs 256):=by
 refine ⟨yDF _,fun i hi=>?_⟩
 have h1:(zs 256).getD (248+i) 0=0:=by
  rw [List.getD,zs,List.getElem?_replicate,if_pos zO];rfl
 rw [h1]
 apply UInt8.toNat_inj.1
 rw [yCo _ _ hi]
 simp
theorem zs_old1:Old 1 (zs 256):=⟨zs_old.len,zs_old.tail⟩
theorem yI8 (img:List UInt8) (x:Nat × List UInt8) (u:List (Nat × List UInt8)):yBe img (x::u)=yBe (lay img (x.1*256) x.2) u:=rfl
set_option maxRecDepth 10000 in
theorem yC8 (n j:Nat):∀ (u:List (Nat × List UInt8)) (img:List UInt8),img.length=256*n→(∀ x ∈ u,x.1≠j∧x.1<n∧x.2.length≤256)→cut (yBe img u) (j*256) 256=cut img (j*256) 256:=by
 intro u
 induction u with
 |nil=>intro img _ _;rfl
 |cons x u ih=>
  intro img hl h
  obtain ⟨h1,h2,h3⟩:=h x zW
  have hb:x.1*256+x.2.length≤img.length:=zO
  rw [yI8,ih _ (by rw [yBm _ _ _ hb];exact hl) (fun y hy=>h y (by simp [hy]))]
  clear ih h
  rcases Nat.lt_or_ge j x.1 with hlt|hge
  ·have hh:j*256+256≤x.1*256:=by omega
   exact yEh _ _ _ _ _ hb hh
  ·have hh:x.1*256+x.2.length≤j*256:=by omega
   exact yDa _ _ _ _ _ hb hh
theorem yFm (img s:List UInt8) (o d:Nat) (hs:s.length=256) (hd:d≤256) (h:o+256≤img.length):cut (lay img o (s.take d)) o 256=yE2 s (cut img o 256) d:=by
 have htl:(s.take d).length=d:=by rw [zLg];omega
 unfold cut lay yE2
 rw [List.drop_left' (by simp;omega),htl,zLF,htl,zLi zO,List.drop_take,List.drop_drop]
def yGx (l:Nat):Nat:=(l+233) / 234
def pcs (stamp:Int):Nat→Nat→List UInt8→List (Nat × List UInt8)
 |0,_,_=>[]
 |f+1,a,v=>if v=[] then [] else (a,yAx stamp (v.take 234))::pcs stamp f (a+1) (v.drop 234)
theorem yN8 (stamp:Int) (f a:Nat):pcs stamp f a []=[]:=by cases f <;> simp [pcs]
theorem yG2 (stamp:Int) (f a:Nat) (v:List UInt8) (h:v≠[]):pcs stamp (f+1) a v=(a,yAx stamp (v.take 234))::pcs stamp f (a+1) (v.drop 234):=by
 show (if v=[] then _ else _)=_
 rw [if_neg h]
theorem ySD (stamp:Int):∀ (f a:Nat) (v:List UInt8),∀ x ∈ pcs stamp f a v,a≤x.1∧x.1<a+yGx v.length∧x.2.length=256:=by
 intro f
 induction f with
 |zero=>intro a v x hx;cases hx
 |succ f ih=>
  intro a v x hx
  by_cases hv:v=[]
  ·rw [hv,yN8] at hx;cases hx
  ·rw [yG2 _ _ _ _ hv] at hx
   have hp:=zLv.2 hv
   rcases zLm.1 hx with rfl|hx
   ·exact ⟨Nat.le_refl _,by unfold yGx;dsimp only;omega,yAV _ _ (by rw [zLg];omega)⟩
   ·obtain ⟨h1,h2,h3⟩:=ih (a+1) (v.drop 234) x hx
    rw [zLf] at h2
    unfold yGx at h2 ⊢
    exact ⟨zO,zO,h3⟩
def ySE (dn:Nat→Nat) (u:List (Nat × List UInt8)) (s:Nat):List (Nat × List UInt8):=(u.zipIdx s).map fun x=>(x.1.1,x.1.2.take (dn x.2))
theorem yI9 (dn:Nat→Nat) (x:Nat × List UInt8) (u:List (Nat × List UInt8)) (s:Nat):ySE dn (x::u) s=(x.1,x.2.take (dn s))::ySE dn u (s+1):=rfl
theorem yN9 (dn:Nat→Nat):∀ (u:List (Nat × List UInt8)) (s:Nat),∀ x ∈ ySE dn u s,∃ y ∈ u,x.1=y.1∧x.2.length≤y.2.length:=by
 intro u
 induction u with
 |nil=>intro s x hx;cases hx
 |cons y u ih=>
  intro s x hx
  rw [yI9] at hx
  rcases zLm.1 hx with rfl|hx
  ·exact ⟨y,by simp,rfl,by dsimp only;rw [zLg];omega⟩
  ·obtain ⟨z,hz,h⟩:=ih (s+1) x hx
   exact ⟨z,by simp [hz],h⟩
theorem yMI (dn:Nat→Nat) (hd:∀ k,dn k=256):∀ (u:List (Nat × List UInt8)) (s:Nat),(∀ x ∈ u,x.2.length=256)→ySE dn u s=u:=by
 intro u
 induction u with
 |nil=>intro s _;rfl
 |cons y u ih=>
  intro s h
  rw [yI9,ih (s+1) (fun x hx=>h x (by simp [hx])),hd,zLi (by have:=h y zW;omega)]
theorem yQq (img:List UInt8) (kept:List Bool) (torn bytes:Int) (u:List (Nat × List UInt8)):yGi img kept torn bytes u=yBe img (ySE (done kept torn bytes) u 0):=by
 unfold yGi yBe ySE
 rw [List.foldl_map]
theorem yVa (kept:List Bool) (torn bytes:Int) (k:Nat):done kept torn bytes k≤256:=by
 unfold done
 split
 ·omega
 ·split <;> omega
theorem yPa (stamp:Int) (n:Nat) (dn:Nat→Nat) (hd:∀ k,dn k≤256):∀ (f a m s:Nat) (v img:List UInt8),img.length=256*n→a+yGx v.length≤n→
 ∀ k,234*k<v.length→∃ d,d≤256∧cut (yBe img (ySE dn ((pcs stamp f a v).take m) s)) ((a+k)*256) 256=yE2 (yAx stamp ((v.drop (234*k)).take 234)) (cut img ((a+k)*256) 256) d∧((∀ k,dn k=256)→v.length≤234*f→(pcs stamp f a v).length≤m→d=256):=by
 intro f
 induction f with
 |zero=>intro a m s v img hl hn k hk;exact ⟨0,zO,by simp [pcs,ySE,yE2,yBe],fun _ h=>by omega⟩
 |succ f ih=>
  intro a m s v img hl hn k hk
  have hv:v≠[]:=by rintro rfl;simp at hk
  have hp:=zLv.2 hv
  cases m with
  |zero=>exact ⟨0,zO,by simp [ySE,yE2,yBe],fun _ _ h=>by rw [yG2 _ _ _ _ hv] at h;simp at h⟩
  |succ m=>
   have hs:(v.take 234).length≤234:=by rw [zLg];omega
   have hS:=yAV stamp _ hs
   have hn':a+1≤n∧a+1+yGx (v.drop 234).length≤n:=by
    rw [zLf]
    unfold yGx at hn ⊢
    omega
   rw [yG2 _ _ _ _ hv,List.take_succ_cons,yI9,yI8]
   dsimp only
   have htl:((yAx stamp (v.take 234)).take (dn s)).length=dn s:=by rw [zLg];have:=hd s;omega
   have hb:a*256+((yAx stamp (v.take 234)).take (dn s)).length≤img.length:=by rw [htl];have:=hd s;omega
   cases k with
   |zero=>
    refine ⟨dn s,hd s,?_,fun h _ _=>h s⟩
    show cut _ (a*256) 256=yE2 (yAx stamp (v.take 234)) (cut img (a*256) 256) (dn s)
    rw [yC8 n a _ _ (by rw [yBm _ _ _ hb];exact hl) (fun x hx=>?_)]
    ·exact yFm _ _ _ _ hS (hd s) zO
    ·obtain ⟨y,hy,e1,e2⟩:=yN9 _ _ _ _ hx
     obtain ⟨h1,h2,h3⟩:=ySD _ _ _ _ y (List.mem_of_mem_take hy)
     exact ⟨zO,zO,zO⟩
   |succ k=>
    obtain ⟨d,h1,h2,h3⟩:=ih (a+1) m (s+1) (v.drop 234) (lay img (a*256) ((yAx stamp (v.take 234)).take (dn s))) (by rw [yBm _ _ _ hb];exact hl) hn'.2 k (by rw [zLf];omega)
    refine ⟨d,h1,?_,fun q1 q2 q3=>h3 q1 (by rw [zLf];omega) (by simpa using q3)⟩
    have e1:(a+1+k)*256=(a+(k+1))*256:=zO
    rw [e1,List.drop_drop,show 234+234*k=234*(k+1) by omega,yDa _ _ _ _ _ hb (by have:=hd s;omega)] at h2
    exact h2
theorem yJa (new old:List UInt8) (h:new.length=256) (h2:old.length=256):yE2 new old 256=new:=by
 unfold yE2
 rw [zLi zO,zLl zO,zLs]
theorem yHH {D:Dsk} (h:D.off=false) (i:Nat) (hi:i<D.n) (s:List UInt8) (hs:s.length=256) :
 ((D.writeE i s=0∧(D.writeD i s).off=false)∨D.writeE i s=12)∧(D.writeD i s).und=D.und++[(i,s)]∧(D.writeD i s).img=D.img∧(D.writeD i s).n=D.n∧(D.armed=-1→D.writeE i s=0∧(D.writeD i s).armed=-1):=by
 have hhas:D.has (i:Int)=true:=by unfold Dsk.has;exact zY zO
 obtain ⟨n,img,und,off,armed,wr,fl,lf⟩:=D
 obtain rfl:off=false:=h
 by_cases h0:armed=0
 ·subst h0
  simp [Dsk.writeE,Dsk.writeD,Dsk.dead,Dsk.gone,hhas,hs]
 ·by_cases hp:0<armed
  ·simp [Dsk.writeE,Dsk.writeD,Dsk.dead,Dsk.gone,hhas,hs,h0,hp]
   omega
  ·simp [Dsk.writeE,Dsk.writeD,Dsk.dead,Dsk.gone,hhas,hs,h0,hp]
theorem yQr {D:Dsk} (h:D.off=false) :
 ((D.flushE=0∧D.flushD.off=false∧D.flushD.und=[]∧D.flushD.img=yBe D.img D.und)∨(D.flushE=12∧D.flushD.und=D.und∧D.flushD.img=D.img))∧D.flushD.n=D.n∧(D.armed=-1→D.flushE=0∧D.flushD.armed=-1):=by
 obtain ⟨n,img,und,off,armed,wr,fl,lf⟩:=D
 obtain rfl:off=false:=h
 by_cases h0:armed=0
 ·subst h0
  simp [Dsk.flushE,Dsk.flushD,Dsk.dead,Dsk.gone]
 ·by_cases hp:0<armed
  ·simp [Dsk.flushE,Dsk.flushD,Dsk.dead,Dsk.gone,h0,hp]
   omega
  ·simp [Dsk.flushE,Dsk.flushD,Dsk.dead,Dsk.gone,h0,hp]
theorem ySF (stamp:Int) (at_:Nat):∀ (f:Nat) (D:Dsk) (i:Nat) (v:List UInt8),D.off=false→D.ok→v.length≤234*f→at_+i+yGx v.length≤D.n→
 (((yC0 at_ stamp f D i v).1=0∧(yC0 at_ stamp f D i v).2.off=false∧(yC0 at_ stamp f D i v).2.und=[]∧(yC0 at_ stamp f D i v).2.img=yBe D.img (D.und++pcs stamp f (at_+i) v))∨
   ((yC0 at_ stamp f D i v).1=12∧(yC0 at_ stamp f D i v).2.img=D.img∧∃ m,(yC0 at_ stamp f D i v).2.und=D.und++(pcs stamp f (at_+i) v).take m))∧
 (yC0 at_ stamp f D i v).2.n=D.n∧(yC0 at_ stamp f D i v).2.ok∧(D.armed=-1→(yC0 at_ stamp f D i v).1=0∧(yC0 at_ stamp f D i v).2.armed=-1):=by
 have hnil:∀ (f:Nat) (D:Dsk) (i:Nat),D.off=false→D.ok→(((yC0 at_ stamp f D i []).1=0∧(yC0 at_ stamp f D i []).2.off=false∧(yC0 at_ stamp f D i []).2.und=[]∧(yC0 at_ stamp f D i []).2.img=yBe D.img (D.und++pcs stamp f (at_+i) []))∨
  ((yC0 at_ stamp f D i []).1=12∧(yC0 at_ stamp f D i []).2.img=D.img∧∃ m,(yC0 at_ stamp f D i []).2.und=D.und++(pcs stamp f (at_+i) []).take m))∧
  (yC0 at_ stamp f D i []).2.n=D.n∧(yC0 at_ stamp f D i []).2.ok∧(D.armed=-1→(yC0 at_ stamp f D i []).1=0∧(yC0 at_ stamp f D i []).2.armed=-1):=by
  intro f D i ho hk
  rw [yIv,yN8]
  obtain ⟨h1,h2,h3⟩:=yQr ho
  refine ⟨?_,h2,Dsk.flushD_ok hk,h3⟩
  rcases h1 with ⟨a,b,c,d⟩|⟨a,b,c⟩
  ·exact .inl ⟨a,b,c,by rw [zLs];exact d⟩
  ·exact .inr ⟨a,c,0,by simpa using b⟩
 intro f
 induction f with
 |zero=>
  intro D i v ho hk hv hn
  have:v=[]:=List.length_eq_zero_iff.1 zO
  subst this
  exact hnil 0 D i ho hk
 |succ f ih=>
  intro D i v ho hk hv hn
  by_cases h0:v=[]
  ·subst h0;exact hnil (f+1) D i ho hk
  have hp:=zLv.2 h0
  have hn':at_+i<D.n∧at_+(i+1)+yGx (v.drop 234).length≤D.n:=by
   rw [zLf]
   unfold yGx at hn ⊢
   omega
  have hS:=yAV stamp (v.take 234) (by rw [zLg];omega)
  obtain ⟨w1,w2,w3,w4,w5⟩:=yHH ho (at_+i) hn'.1 _ hS
  have hok:=Dsk.writeD_ok hk ((at_+i:Nat):Int) (yAx stamp (v.take 234))
  have hu:yC0 at_ stamp (f+1) D i v=if D.writeE ((at_+i:Nat):Int) (yAx stamp (v.take 234))≠0 then (D.writeE ((at_+i:Nat):Int) (yAx stamp (v.take 234)),D.writeD ((at_+i:Nat):Int) (yAx stamp (v.take 234)))
   else yC0 at_ stamp f (D.writeD ((at_+i:Nat):Int) (yAx stamp (v.take 234))) ((i+1:Nat):Int) (v.drop 234):=by
   show (if v=[] then _ else _)=_
   rw [if_neg h0]
   rfl
  rw [hu,yG2 _ _ _ _ h0]
  clear hu
  rcases w1 with ⟨a,b⟩|a
  ·rw [if_neg (by rw [a];simp)]
   obtain ⟨r1,r2,r3,r4⟩:=ih (D.writeD ((at_+i:Nat):Int) (yAx stamp (v.take 234))) (i+1) (v.drop 234) b hok (by rw [zLf];omega) (by rw [w4];exact hn'.2)
   refine ⟨?_,by rw [r2,w4],r3,fun q=>r4 (w5 q).2⟩
   rcases r1 with ⟨c1,c2,c3,c4⟩|⟨c1,c2,m,c3⟩
   ·refine .inl ⟨c1,c2,c3,?_⟩
    rw [c4,w3,w2,zLd]
    rfl
   ·refine .inr ⟨c1,by rw [c2,w3],m+1,?_⟩
    rw [c3,w2,zLd]
    rfl
  ·rw [if_pos (by rw [a];simp)]
   exact ⟨.inr ⟨a,w3,1,by rw [w2];rfl⟩,w4,hok,fun q=>by rw [(w5 q).1] at a;cases a⟩
theorem yXA {D:Dsk} (hoff:D.off=false) (hund:D.und=[]) (at_ stamp:Nat) (h0:stamp≠0):∀ (f i:Nat) (v acc:List UInt8) (bytes:Int),f=yGx v.length→at_+i+f≤D.n→(0<v.length→bytes=234*(i:Int)+v.length)→
 (∀ k,234*k<v.length→D.sec (at_+i+k)=yAx stamp ((v.drop (234*k)).take 234))→yLs D at_ stamp bytes f i acc=(acc++v,0):=by
 intro f
 induction f with
 |zero=>
  intro i v acc bytes hf hn hb hs
  have:v=[]:=List.length_eq_zero_iff.1 (by unfold yGx at hf;omega)
  subst this
  simp [yLs]
 |succ f ih=>
  intro i v acc bytes hf hn hb hs
  have hp:0<v.length:=by unfold yGx at hf;omega
  have hb:=hb hp
  have hi:D.has ((at_+i:Nat):Int)=true:=by unfold Dsk.has;exact zY zO
  have hE:D.readE ((at_:Int)+i)=0:=by
   show D.readE ((at_+i:Nat):Int)=0
   unfold Dsk.readE
   rw [hoff,hi]
   rfl
  have hS:D.readS ((at_:Int)+i)=D.sec (at_+i):=by
   show D.readS ((at_+i:Nat):Int)=D.sec (at_+i)
   unfold Dsk.readS Dsk.rd
   rw [hoff,hi,hund]
   rfl
  have h1:=hs 0 zO
  rw [zLz,Nat.mul_zero,zLo] at h1
  have hl:(v.take 234).length≤234:=by rw [zLg];omega
  have ho:=yMz stamp (v.take 234) hl h0
  unfold yLs
  rw [hE,hS,h1,ho,if_neg zW]
  dsimp only
  rw [if_neg (by rw [zLg];omega),ih (i+1) (v.drop 234) (acc++v.take 234) bytes (by rw [zLf];unfold yGx at hf ⊢;omega) zO (fun q=>by rw [zLf] at q ⊢;omega) (fun k hk=>?_),zLd,zLu]
  have h2:=hs (k+1) (by rw [zLf] at hk;omega)
  rw [List.drop_drop,show 234+234*k=234*(k+1) by omega,← h2]
  congr 1
  omega
end Go.Proofs.YtlnbkbfblhofbaaGreatDoor
