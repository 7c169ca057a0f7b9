/-
  Calm, Calm8, Keep, AreL.
-/
import Derived.Test.YtgipenahkmbelaaGreatDoorTBB
import Derived.Test.YtgipenahkmbelaaGreatDoorTDX
import Derived.Test.YtgipenahkmbelaaGreatDoorTBD
import Derived.Test.YtgipenahkmbelaaGreatDoorTBS
set_option maxHeartbeats 64000000
namespace Go.Proofs.YtgipenahkmbelaaGreatDoor
open Go Go.RowKit
def Calm (D:Dsk):Prop:=D.off=false∧D.armed=-1
theorem gone_calm {D:Dsk} (h:Calm D):D.gone=D:=by
 obtain ⟨h1,h2⟩:=h
 unfold Dsk.gone
 rw [if_neg (by omega),if_neg (by omega)]
theorem dead_calm {D:Dsk} (h:Calm D):D.dead=false:=by simp [Dsk.dead,h.2]
theorem blank_calm (n:Nat):Calm (Dsk.blank n):=⟨rfl,rfl⟩
theorem writeD_calm {D:Dsk} (h:Calm D) (i:Int) (s:List UInt8):Calm (D.writeD i s)∧(D.writeD i s).n=D.n:=by
 have h1:Calm ({ D with und:=D.und++[(i.toNat,s)] }:Dsk):=h
 unfold Dsk.writeD
 split
 ·exact ⟨h,rfl⟩
 split
 ·split
  ·simp only [dead_calm h,gone_calm h1]
   exact ⟨h,rfl⟩
  ·exact ⟨h,rfl⟩
 ·exact ⟨h,rfl⟩
theorem flushD_calm {D:Dsk} (h:Calm D):Calm D.flushD∧D.flushD.n=D.n∧D.flushE=0∧D.flushD.und=[]∧D.flushD.img=layAll D.img D.und:=by
 have e:D.flushD={ D with img:=layAll D.img D.und,und:=[],flushes:=w64 (D.flushes+1) }:=by
  unfold Dsk.flushD
  rw [if_neg (by rw [h.1];simp),if_neg (by rw [dead_calm h];simp),gone_calm h]
 rw [e]
 refine ⟨h,rfl,?_,rfl,rfl⟩
 simp [Dsk.flushE,h.1,dead_calm h]
theorem read_clean {D:Dsk} (h:Calm D) (hu:D.und=[]) (i:Nat) (hi:i<D.n):D.readE i=0∧D.readS i=cut D.img (i*256) 256:=by
 have h1:D.has (i:Int)=true:=by simp [Dsk.has,hi]
 constructor
 ·simp [Dsk.readE,h.1,h1]
 ·simp [Dsk.readS,h.1,h1,Dsk.rd,hu,lastW_nil,Dsk.sec]
end Go.Proofs.YtgipenahkmbelaaGreatDoor
namespace Go.Proofs.YtgipenahkmbelaaGreatDoor
open Go Go.RowKit
structure Rest (D:Dsk):Prop where
 calm:Calm D
 und:D.und=[]
 ok:D.ok
theorem Rest.rd {D:Dsk} (h:Rest D) (i:Nat):D.rd i=D.sec i:=by simp [Dsk.rd,h.und,lastW_nil]
theorem rest_write {D:Dsk} (h:Rest D) (a v:Nat) (s:List UInt8) (ha:a+2≤D.n) (hv:1≤v) (hv2:v≤1099511627776) (hs:s.length≤234) :
 slotWE D a v s=0∧Rest (slotWD D a v s)∧(slotWD D a v s).n=D.n∧(slotWD D a v s).sec (a+v % 2)=zBs v s∧∀ j,j≠a+v % 2→j<D.n→(slotWD D a v s).sec j=D.sec j:=by
 have hn:=h.ok.n2
 have hroom:D.roomB (a:Int)=true:=by unfold Dsk.roomB;exact decide_eq_true (by omega)
 have hmay:slotMay D (a:Int) (v:Int)=true:=by
  unfold slotMay;rw [hroom,decide_eq_true (show (1:Int)≤v by omega),decide_eq_true (show (v:Int)≤1099511627776 by omega)];rfl
 have hb:¬ (slotMay D (a:Int) (v:Int)=false):=by rw [hmay];simp
 have hi:((a:Int)+(v:Int) % 2)=((a+v % 2:Nat):Int):=by omega
 have hlen:=sealB_length (v:Int) s hs
 have hi2:a+v % 2<D.n:=by omega
 have hhas:D.has ((a+v % 2:Nat):Int)=true:=by unfold Dsk.has;exact decide_eq_true (by omega)
 have hwE:D.writeE ((a:Int)+(v:Int) % 2) (zBs v s)=0:=by
  rw [hi];unfold Dsk.writeE;rw [if_neg (by rw [h.calm.1];simp),if_pos hhas,if_pos hlen,if_neg (by rw [dead_calm h.calm];simp)]
 have hD1:Calm ({ D with und:=D.und++[(a+v % 2,zBs (v:Int) s)] }:Dsk):=h.calm
 have hw:slotW1 D (a:Int) (v:Int) s={ D with und:=[(a+v % 2,zBs (v:Int) s)],writes:=w64 (D.writes+1) }:=by
  unfold slotW1 Dsk.writeD
  rw [hi,if_neg (by rw [h.calm.1];simp),if_pos hhas,if_pos hlen]
  simp only [dead_calm h.calm,gone_calm hD1,Int.toNat_natCast]
  simp [h.und]
 have hok1:(slotW1 D (a:Int) (v:Int) s).ok:=Dsk.writeD_ok h.ok _ _
 have hc1:Calm (slotW1 D (a:Int) (v:Int) s):=by rw [hw];exact h.calm
 have hf:=flushD_calm hc1
 have hl:=h.ok.len
 have e1:slotWE D a v s=0:=by
  unfold slotWE
  rw [if_neg hb,if_neg (by omega),if_neg (by rw [hwE];simp)]
  exact hf.2.2.1
 have e2:slotWD D a v s=(slotW1 D (a:Int) (v:Int) s).flushD:=by
  unfold slotWD
  rw [if_neg hb,if_neg (by omega),if_neg (by rw [hwE];simp)]
 have hn1:(slotW1 D (a:Int) (v:Int) s).n=D.n:=by rw [hw]
 have himg:(slotWD D a v s).img=lay D.img ((a+v % 2)*256) (zBs (v:Int) s):=by
  rw [e2,hf.2.2.2.2,hw];rfl
 refine ⟨e1,⟨by rw [e2];exact hf.1,by rw [e2];exact hf.2.2.2.1,by rw [e2];exact Dsk.flushD_ok hok1⟩,by rw [e2,hf.2.1,hn1],?_,fun j hj hjn=>?_⟩
 ·unfold Dsk.sec
  rw [himg]
  have:=cut_lay_same D.img (zBs (v:Int) s) ((a+v % 2)*256) (by rw [hlen];omega)
  rw [hlen] at this
  exact this
 ·unfold Dsk.sec
  rw [himg]
  rcases Nat.lt_or_ge j (a+v % 2) with hlt|hge
  ·exact cut_lay_before _ _ _ _ _ (by rw [hlen];omega) (by omega)
  ·exact cut_lay_behind _ _ _ _ _ (by rw [hlen];omega) (by rw [hlen];omega)
structure Holds (D:Dsk) (a c:Nat) (l:List UInt8):Prop where
 here:0<c→countO (D.sec (a+c % 2)) ((c % 2:Nat):Int)=some ((c:Int),l)
 other:zCd (D.sec (a+(c+1) % 2)) (((c+1) % 2:Nat):Int)<(if c=0 then 1 else (c:Int))
 none_:c=0→zCd (D.sec a) 0=0
theorem Holds.told {D:Dsk} {a c:Nat} {l:List UInt8} (hr:Rest D) (ha:a+2≤D.n) (h:Holds D a c l) :
 slotE D a=(if c=0 then 14 else 0)∧slotN D a=c∧slotS D a=(if c=0 then [] else l):=by
 have hroom:D.roomB (a:Int)=true:=by unfold Dsk.roomB;exact decide_eq_true (by omega)
 have b0:=countV_bounds (D.sec a) 0
 have b1:=countV_bounds (D.sec (a+1)) 1
 have hE:slotE D a=if slotVer D a 2=0 then 14 else 0:=by
  unfold slotE
  rw [if_neg (by rw [hroom];simp),if_neg (by rw [hr.calm.1];simp),Int.toNat_natCast]
 have hV:slotVer D a 2=if (if 0<zCd (D.sec a) 0 then zCd (D.sec a) 0 else 0)<zCd (D.sec (a+1)) 1 then zCd (D.sec (a+1)) 1 else (if 0<zCd (D.sec a) 0 then zCd (D.sec a) 0 else 0):=by
  simp only [slotVer,hr.rd];rfl
 have hS:slotVal D a 2=if (if 0<zCd (D.sec a) 0 then zCd (D.sec a) 0 else 0)<zCd (D.sec (a+1)) 1 then countS (D.sec (a+1)) 1 else (if 0<zCd (D.sec a) 0 then countS (D.sec a) 0 else []):=by
  simp only [slotVal,slotVer,hr.rd];rfl
 have hoth:=h.other
 unfold slotS slotN
 rw [hE,Int.toNat_natCast]
 by_cases hc:c=0
 ·subst hc
  have h0:=h.none_ rfl
  simp only [Nat.zero_add,if_true] at hoth
  have h1:zCd (D.sec (a+1)) 1=0:=by
   have:zCd (D.sec (a+1)) 1<1:=hoth
   omega
  have e:slotVer D a 2=0:=by rw [hV,h0,h1];simp
  rw [e]
  simp
 ·have hh:=h.here (by omega)
  rw [if_neg hc] at hoth
  rcases Nat.mod_two_eq_zero_or_one c with hm|hm
  ·have hm':(c+1) % 2=1:=by omega
   rw [hm] at hh
   rw [hm'] at hoth
   have hv0:zCd (D.sec a) 0=c:=by unfold zCd;rw [show countO (D.sec a) 0=some ((c:Int),l) from hh];rfl
   have hs0:countS (D.sec a) 0=l:=by unfold countS;rw [show countO (D.sec a) 0=some ((c:Int),l) from hh];rfl
   have ho:zCd (D.sec (a+1)) 1<c:=hoth
   have p0:(0:Int)<(c:Int):=by omega
   have p1:¬ ((c:Int)<zCd (D.sec (a+1)) 1):=by omega
   have e:slotVer D a 2=c:=by rw [hV,hv0,if_pos p0,if_neg p1]
   have e3:slotVal D a 2=l:=by rw [hS,hv0,if_pos p0,if_neg p1,if_pos p0,hs0]
   rw [e,e3,if_neg (by omega),if_neg hc,if_neg hc]
   simp
  ·have hm':(c+1) % 2=0:=by omega
   rw [hm] at hh
   rw [hm'] at hoth
   have hv1:zCd (D.sec (a+1)) 1=c:=by unfold zCd;rw [show countO (D.sec (a+1)) 1=some ((c:Int),l) from hh];rfl
   have hs1:countS (D.sec (a+1)) 1=l:=by unfold countS;rw [show countO (D.sec (a+1)) 1=some ((c:Int),l) from hh];rfl
   have ho:zCd (D.sec a) 0<c:=hoth
   have hlt:(if 0<zCd (D.sec a) 0 then zCd (D.sec a) 0 else 0)<(c:Int):=by split <;> omega
   have e:slotVer D a 2=c:=by rw [hV,hv1,if_pos hlt]
   have e3:slotVal D a 2=l:=by rw [hS,hv1,if_pos hlt,hs1]
   rw [e,e3,if_neg (by omega),if_neg hc,if_neg hc]
   simp
theorem Holds.keep {D D':Dsk} {a c:Nat} {l:List UInt8} (h:Holds D a c l) (hs:∀ k,k<2→D'.sec (a+k)=D.sec (a+k)):Holds D' a c l:=by
 have h0:D'.sec a=D.sec a:=hs 0 (by omega)
 exact ⟨fun q=>by rw [hs _ (Nat.mod_lt _ (by omega))];exact h.here q,by rw [hs _ (Nat.mod_lt _ (by omega))];exact h.other,fun q=>by rw [h0];exact h.none_ q⟩
theorem Holds.next {D:Dsk} {a c:Nat} {l s:List UInt8} (hr:Rest D) (ha:a+2≤D.n) (h:Holds D a c l) (hc:c+1≤1099511627776) (hs:s.length≤234):Holds (slotWD D a (c+1:Nat) s) a (c+1) s:=by
 obtain ⟨_,_,_,h1,h2⟩:=rest_write hr a (c+1) s ha (by omega) hc hs
 refine ⟨fun _=>?_,?_,fun q=>by omega⟩
 ·rw [h1,show (((c+1) % 2:Nat):Int)=((c+1:Nat):Int) % 2 by omega]
  exact seal_count (c+1) s hs (by omega) hc
 ·have e:(c+1+1) % 2=c % 2:=by omega
  rw [e,h2 _ (by omega) (by omega),if_neg (by omega)]
  by_cases hz:c=0
  ·subst hz
   have:zCd (D.sec a) 0=0:=h.none_ rfl
   show zCd (D.sec a) 0<((0+1:Nat):Int)
   omega
  ·have hh:=h.here (by omega)
   have:zCd (D.sec (a+c % 2)) ((c % 2:Nat):Int)=c:=by unfold zCd;rw [hh];rfl
   rw [this]
   omega
theorem blank_sec (n i:Nat) (h:i<n):(Dsk.blank n).sec i=zs 256:=zs_cut _ _ _ (by omega)
theorem count_zero0:zCd (zs 256) 0=0:=by kernel_rfl
theorem count_zero1:zCd (zs 256) 1=0:=by kernel_rfl
theorem Holds.blank (n a:Nat) (h:a+2≤n):Holds (Dsk.blank n) a 0 []:=by
 refine ⟨fun q=>by omega,?_,fun _=>?_⟩
 ·show zCd ((Dsk.blank n).sec (a+1)) 1<1
  rw [blank_sec _ _ (by omega),count_zero1]
  omega
 ·rw [blank_sec _ _ (by omega),count_zero0]
theorem blank_rest (n:Nat) (h1:1≤n) (h2:n≤65536):Rest (Dsk.blank n):=⟨blank_calm n,rfl,Dsk.blank_ok n h1 h2⟩
end Go.Proofs.YtgipenahkmbelaaGreatDoor
namespace Go.Proofs.YtgipenahkmbelaaGreatDoor
open Go Go.RowKit
def tornB (new old:List UInt8) (k:Nat):List UInt8:=new.take k++old.drop k
structure Still (D:Dsk):Prop where
 on:D.off=false
 und:D.und=[]
 ok:D.ok
theorem Still.rest {D:Dsk} (h:Still D):Rest ({ D with armed:=-1 }:Dsk):=⟨⟨h.on,rfl⟩,h.und,⟨h.ok.n1,h.ok.n2,h.ok.len,h.ok.und,by simp,by simp⟩⟩
theorem Still.told {D:Dsk} {a c:Nat} {l:List UInt8} (hr:Still D) (ha:a+2≤D.n) (h:Holds D a c l) :
 slotE D a=(if c=0 then 14 else 0)∧slotN D a=c∧slotS D a=(if c=0 then [] else l):=
 Holds.told (D:={ D with armed:=-1 }) hr.rest ha ⟨h.here,h.other,h.none_⟩
end Go.Proofs.YtgipenahkmbelaaGreatDoor
namespace Go.Proofs.YtgipenahkmbelaaGreatDoor
open Go Go.RowKit
theorem layAll_cons (img:List UInt8) (x:Nat × List UInt8) (u:List (Nat × List UInt8)):layAll img (x::u)=layAll (lay img (x.1*256) x.2) u:=rfl
set_option maxRecDepth 10000 in
theorem layAll_off (n j:Nat):∀ (u:List (Nat × List UInt8)) (img:List UInt8),img.length=256*n→(∀ x ∈ u,x.1≠j∧x.1<n∧x.2.length≤256)→cut (layAll img u) (j*256) 256=cut img (j*256) 256:=by
 intro u
 induction u with
 |nil=>intro img _ _;rfl
 |cons x u ih=>
  intro img hl h
  obtain ⟨h1,h2,h3⟩:=h x (by simp)
  have hb:x.1*256+x.2.length≤img.length:=by omega
  rw [layAll_cons,ih _ (by rw [lay_length _ _ _ hb];exact hl) (fun y hy=>h y (by simp [hy]))]
  clear ih h
  rcases Nat.lt_or_ge j x.1 with hlt|hge
  ·have hh:j*256+256≤x.1*256:=by omega
   exact cut_lay_before _ _ _ _ _ hb hh
  ·have hh:x.1*256+x.2.length≤j*256:=by omega
   exact cut_lay_behind _ _ _ _ _ hb hh
theorem cut_lay_torn (img s:List UInt8) (o d:Nat) (hs:s.length=256) (hd:d≤256) (h:o+256≤img.length):cut (lay img o (s.take d)) o 256=tornB s (cut img o 256) d:=by
 have htl:(s.take d).length=d:=by rw [List.length_take];omega
 unfold cut lay tornB
 rw [List.drop_left' (by simp;omega),htl,List.take_append,htl,List.take_of_length_le (by omega),List.drop_take,List.drop_drop]
def nsec (l:Nat):Nat:=(l+233) / 234
def pcs (stamp:Int):Nat→Nat→List UInt8→List (Nat × List UInt8)
 |0,_,_=>[]
 |f+1,a,v=>if v=[] then [] else (a,zBs stamp (v.take 234))::pcs stamp f (a+1) (v.drop 234)
theorem pcs_nil (stamp:Int) (f a:Nat):pcs stamp f a []=[]:=by cases f <;> simp [pcs]
theorem pcs_cons (stamp:Int) (f a:Nat) (v:List UInt8) (h:v≠[]):pcs stamp (f+1) a v=(a,zBs stamp (v.take 234))::pcs stamp f (a+1) (v.drop 234):=by
 show (if v=[] then _ else _)=_
 rw [if_neg h]
theorem pcs_in (stamp:Int):∀ (f a:Nat) (v:List UInt8),∀ x ∈ pcs stamp f a v,a≤x.1∧x.1<a+nsec v.length∧x.2.length=256:=by
 intro f
 induction f with
 |zero=>intro a v x hx;cases hx
 |succ f ih=>
  intro a v x hx
  by_cases hv:v=[]
  ·rw [hv,pcs_nil] at hx;cases hx
  ·rw [pcs_cons _ _ _ _ hv] at hx
   have hp:=List.length_pos_iff.2 hv
   rcases List.mem_cons.1 hx with rfl|hx
   ·exact ⟨Nat.le_refl _,by unfold nsec;dsimp only;omega,sealB_length _ _ (by rw [List.length_take];omega)⟩
   ·obtain ⟨h1,h2,h3⟩:=ih (a+1) (v.drop 234) x hx
    rw [List.length_drop] at h2
    unfold nsec at h2 ⊢
    exact ⟨by omega,by omega,h3⟩
def cutP (dn:Nat→Nat) (u:List (Nat × List UInt8)) (s:Nat):List (Nat × List UInt8):=(u.zipIdx s).map fun x=>(x.1.1,x.1.2.take (dn x.2))
theorem cutP_cons (dn:Nat→Nat) (x:Nat × List UInt8) (u:List (Nat × List UInt8)) (s:Nat):cutP dn (x::u) s=(x.1,x.2.take (dn s))::cutP dn u (s+1):=rfl
theorem cutP_in (dn:Nat→Nat):∀ (u:List (Nat × List UInt8)) (s:Nat),∀ x ∈ cutP dn u s,∃ y ∈ u,x.1=y.1∧x.2.length≤y.2.length:=by
 intro u
 induction u with
 |nil=>intro s x hx;cases hx
 |cons y u ih=>
  intro s x hx
  rw [cutP_cons] at hx
  rcases List.mem_cons.1 hx with rfl|hx
  ·exact ⟨y,by simp,rfl,by dsimp only;rw [List.length_take];omega⟩
  ·obtain ⟨z,hz,h⟩:=ih (s+1) x hx
   exact ⟨z,by simp [hz],h⟩
theorem cutP_full (dn:Nat→Nat) (hd:∀ k,dn k=256):∀ (u:List (Nat × List UInt8)) (s:Nat),(∀ x ∈ u,x.2.length=256)→cutP dn u s=u:=by
 intro u
 induction u with
 |nil=>intro s _;rfl
 |cons y u ih=>
  intro s h
  rw [cutP_cons,ih (s+1) (fun x hx=>h x (by simp [hx])),hd,List.take_of_length_le (by have:=h y (by simp);omega)]
theorem torn_pcs (stamp:Int) (n:Nat) (dn:Nat→Nat) (hd:∀ k,dn k≤256):∀ (f a m s:Nat) (v img:List UInt8),img.length=256*n→a+nsec v.length≤n→
 ∀ k,234*k<v.length→∃ d,d≤256∧cut (layAll img (cutP dn ((pcs stamp f a v).take m) s)) ((a+k)*256) 256=tornB (zBs stamp ((v.drop (234*k)).take 234)) (cut img ((a+k)*256) 256) d∧((∀ k,dn k=256)→v.length≤234*f→(pcs stamp f a v).length≤m→d=256):=by
 intro f
 induction f with
 |zero=>intro a m s v img hl hn k hk;exact ⟨0,by omega,by simp [pcs,cutP,tornB,layAll],fun _ h=>by omega⟩
 |succ f ih=>
  intro a m s v img hl hn k hk
  have hv:v≠[]:=by rintro rfl;simp at hk
  have hp:=List.length_pos_iff.2 hv
  cases m with
  |zero=>exact ⟨0,by omega,by simp [cutP,tornB,layAll],fun _ _ h=>by rw [pcs_cons _ _ _ _ hv] at h;simp at h⟩
  |succ m=>
   have hs:(v.take 234).length≤234:=by rw [List.length_take];omega
   have hS:=sealB_length stamp _ hs
   have hn':a+1≤n∧a+1+nsec (v.drop 234).length≤n:=by
    rw [List.length_drop]
    unfold nsec at hn ⊢
    omega
   rw [pcs_cons _ _ _ _ hv,List.take_succ_cons,cutP_cons,layAll_cons]
   dsimp only
   have htl:((zBs stamp (v.take 234)).take (dn s)).length=dn s:=by rw [List.length_take];have:=hd s;omega
   have hb:a*256+((zBs stamp (v.take 234)).take (dn s)).length≤img.length:=by rw [htl];have:=hd s;omega
   cases k with
   |zero=>
    refine ⟨dn s,hd s,?_,fun h _ _=>h s⟩
    show cut _ (a*256) 256=tornB (zBs stamp (v.take 234)) (cut img (a*256) 256) (dn s)
    rw [layAll_off n a _ _ (by rw [lay_length _ _ _ hb];exact hl) (fun x hx=>?_)]
    ·exact cut_lay_torn _ _ _ _ hS (hd s) (by omega)
    ·obtain ⟨y,hy,e1,e2⟩:=cutP_in _ _ _ _ hx
     obtain ⟨h1,h2,h3⟩:=pcs_in _ _ _ _ y (List.mem_of_mem_take hy)
     exact ⟨by omega,by omega,by omega⟩
   |succ k=>
    obtain ⟨d,h1,h2,h3⟩:=ih (a+1) m (s+1) (v.drop 234) (lay img (a*256) ((zBs stamp (v.take 234)).take (dn s))) (by rw [lay_length _ _ _ hb];exact hl) hn'.2 k (by rw [List.length_drop];omega)
    refine ⟨d,h1,?_,fun q1 q2 q3=>h3 q1 (by rw [List.length_drop];omega) (by simpa using q3)⟩
    have e1:(a+1+k)*256=(a+(k+1))*256:=by omega
    rw [e1,List.drop_drop,show 234+234*k=234*(k+1) by omega,cut_lay_behind _ _ _ _ _ hb (by have:=hd s;omega)] at h2
    exact h2
theorem torn_full (new old:List UInt8) (h:new.length=256) (h2:old.length=256):tornB new old 256=new:=by
 unfold tornB
 rw [List.take_of_length_le (by omega),List.drop_of_length_le (by omega),List.append_nil]
theorem write_ways {D:Dsk} (h:D.off=false) (i:Nat) (hi:i<D.n) (s:List UInt8) (hs:s.length=256) :
 ((D.writeE i s=0∧(D.writeD i s).off=false)∨D.writeE i s=12)∧(D.writeD i s).und=D.und++[(i,s)]∧(D.writeD i s).img=D.img∧(D.writeD i s).n=D.n∧(D.armed=-1→D.writeE i s=0∧(D.writeD i s).armed=-1):=by
 have hhas:D.has (i:Int)=true:=by unfold Dsk.has;exact decide_eq_true (by omega)
 obtain ⟨n,img,und,off,armed,wr,fl,lf⟩:=D
 obtain rfl:off=false:=h
 by_cases h0:armed=0
 ·subst h0
  simp [Dsk.writeE,Dsk.writeD,Dsk.dead,Dsk.gone,hhas,hs]
 ·by_cases hp:0<armed
  ·simp [Dsk.writeE,Dsk.writeD,Dsk.dead,Dsk.gone,hhas,hs,h0,hp]
   omega
  ·simp [Dsk.writeE,Dsk.writeD,Dsk.dead,Dsk.gone,hhas,hs,h0,hp]
theorem flush_ways {D:Dsk} (h:D.off=false) :
 ((D.flushE=0∧D.flushD.off=false∧D.flushD.und=[]∧D.flushD.img=layAll D.img D.und)∨(D.flushE=12∧D.flushD.und=D.und∧D.flushD.img=D.img))∧D.flushD.n=D.n∧(D.armed=-1→D.flushE=0∧D.flushD.armed=-1):=by
 obtain ⟨n,img,und,off,armed,wr,fl,lf⟩:=D
 obtain rfl:off=false:=h
 by_cases h0:armed=0
 ·subst h0
  simp [Dsk.flushE,Dsk.flushD,Dsk.dead,Dsk.gone]
 ·by_cases hp:0<armed
  ·simp [Dsk.flushE,Dsk.flushD,Dsk.dead,Dsk.gone,h0,hp]
   omega
  ·simp [Dsk.flushE,Dsk.flushD,Dsk.dead,Dsk.gone,h0,hp]
theorem aw_ways (stamp:Int) (at_:Nat):∀ (f:Nat) (D:Dsk) (i:Nat) (v:List UInt8),D.off=false→D.ok→v.length≤234*f→at_+i+nsec v.length≤D.n→
 (((awGo at_ stamp f D i v).1=0∧(awGo at_ stamp f D i v).2.off=false∧(awGo at_ stamp f D i v).2.und=[]∧(awGo at_ stamp f D i v).2.img=layAll D.img (D.und++pcs stamp f (at_+i) v))∨
   ((awGo at_ stamp f D i v).1=12∧(awGo at_ stamp f D i v).2.img=D.img∧∃ m,(awGo at_ stamp f D i v).2.und=D.und++(pcs stamp f (at_+i) v).take m))∧
 (awGo at_ stamp f D i v).2.n=D.n∧(awGo at_ stamp f D i v).2.ok∧(D.armed=-1→(awGo at_ stamp f D i v).1=0∧(awGo at_ stamp f D i v).2.armed=-1):=by
 have hnil:∀ (f:Nat) (D:Dsk) (i:Nat),D.off=false→D.ok→(((awGo at_ stamp f D i []).1=0∧(awGo at_ stamp f D i []).2.off=false∧(awGo at_ stamp f D i []).2.und=[]∧(awGo at_ stamp f D i []).2.img=layAll D.img (D.und++pcs stamp f (at_+i) []))∨
  ((awGo at_ stamp f D i []).1=12∧(awGo at_ stamp f D i []).2.img=D.img∧∃ m,(awGo at_ stamp f D i []).2.und=D.und++(pcs stamp f (at_+i) []).take m))∧
  (awGo at_ stamp f D i []).2.n=D.n∧(awGo at_ stamp f D i []).2.ok∧(D.armed=-1→(awGo at_ stamp f D i []).1=0∧(awGo at_ stamp f D i []).2.armed=-1):=by
  intro f D i ho hk
  rw [awGo_nil,pcs_nil]
  obtain ⟨h1,h2,h3⟩:=flush_ways ho
  refine ⟨?_,h2,Dsk.flushD_ok hk,h3⟩
  rcases h1 with ⟨a,b,c,d⟩|⟨a,b,c⟩
  ·exact .inl ⟨a,b,c,by rw [List.append_nil];exact d⟩
  ·exact .inr ⟨a,c,0,by simpa using b⟩
 intro f
 induction f with
 |zero=>
  intro D i v ho hk hv hn
  have:v=[]:=List.length_eq_zero_iff.1 (by omega)
  subst this
  exact hnil 0 D i ho hk
 |succ f ih=>
  intro D i v ho hk hv hn
  by_cases h0:v=[]
  ·subst h0;exact hnil (f+1) D i ho hk
  have hp:=List.length_pos_iff.2 h0
  have hn':at_+i<D.n∧at_+(i+1)+nsec (v.drop 234).length≤D.n:=by
   rw [List.length_drop]
   unfold nsec at hn ⊢
   omega
  have hS:=sealB_length stamp (v.take 234) (by rw [List.length_take];omega)
  obtain ⟨w1,w2,w3,w4,w5⟩:=write_ways ho (at_+i) hn'.1 _ hS
  have hok:=Dsk.writeD_ok hk ((at_+i:Nat):Int) (zBs stamp (v.take 234))
  have hu:awGo at_ stamp (f+1) D i v=if D.writeE ((at_+i:Nat):Int) (zBs stamp (v.take 234))≠0 then (D.writeE ((at_+i:Nat):Int) (zBs stamp (v.take 234)),D.writeD ((at_+i:Nat):Int) (zBs stamp (v.take 234)))
   else awGo at_ stamp f (D.writeD ((at_+i:Nat):Int) (zBs stamp (v.take 234))) ((i+1:Nat):Int) (v.drop 234):=by
   show (if v=[] then _ else _)=_
   rw [if_neg h0]
   rfl
  rw [hu,pcs_cons _ _ _ _ h0]
  clear hu
  rcases w1 with ⟨a,b⟩|a
  ·rw [if_neg (by rw [a];simp)]
   obtain ⟨r1,r2,r3,r4⟩:=ih (D.writeD ((at_+i:Nat):Int) (zBs stamp (v.take 234))) (i+1) (v.drop 234) b hok (by rw [List.length_drop];omega) (by rw [w4];exact hn'.2)
   refine ⟨?_,by rw [r2,w4],r3,fun q=>r4 (w5 q).2⟩
   rcases r1 with ⟨c1,c2,c3,c4⟩|⟨c1,c2,m,c3⟩
   ·refine .inl ⟨c1,c2,c3,?_⟩
    rw [c4,w3,w2,List.append_assoc]
    rfl
   ·refine .inr ⟨c1,by rw [c2,w3],m+1,?_⟩
    rw [c3,w2,List.append_assoc]
    rfl
  ·rw [if_pos (by rw [a];simp)]
   exact ⟨.inr ⟨a,w3,1,by rw [w2];rfl⟩,w4,hok,fun q=>by rw [(w5 q).1] at a;cases a⟩
theorem ar_back {D:Dsk} (hoff:D.off=false) (hund:D.und=[]) (at_ stamp:Nat) (h0:stamp≠0):∀ (f i:Nat) (v acc:List UInt8) (bytes:Int),f=nsec v.length→at_+i+f≤D.n→(0<v.length→bytes=234*(i:Int)+v.length)→
 (∀ k,234*k<v.length→D.sec (at_+i+k)=zBs stamp ((v.drop (234*k)).take 234))→arGo D at_ stamp bytes f i acc=(acc++v,0):=by
 intro f
 induction f with
 |zero=>
  intro i v acc bytes hf hn hb hs
  have:v=[]:=List.length_eq_zero_iff.1 (by unfold nsec at hf;omega)
  subst this
  simp [arGo]
 |succ f ih=>
  intro i v acc bytes hf hn hb hs
  have hp:0<v.length:=by unfold nsec at hf;omega
  have hb:=hb hp
  have hi:D.has ((at_+i:Nat):Int)=true:=by unfold Dsk.has;exact decide_eq_true (by omega)
  have hE:D.readE ((at_:Int)+i)=0:=by
   show D.readE ((at_+i:Nat):Int)=0
   unfold Dsk.readE
   rw [hoff,hi]
   rfl
  have hS:D.readS ((at_:Int)+i)=D.sec (at_+i):=by
   show D.readS ((at_+i:Nat):Int)=D.sec (at_+i)
   unfold Dsk.readS Dsk.rd
   rw [hoff,hi,hund]
   rfl
  have h1:=hs 0 (by omega)
  rw [Nat.add_zero,Nat.mul_zero,List.drop_zero] at h1
  have hl:(v.take 234).length≤234:=by rw [List.length_take];omega
  have ho:=seal_open stamp (v.take 234) hl h0
  unfold arGo
  rw [hE,hS,h1,ho,if_neg (by simp)]
  dsimp only
  rw [if_neg (by rw [List.length_take];omega),ih (i+1) (v.drop 234) (acc++v.take 234) bytes (by rw [List.length_drop];unfold nsec at hf ⊢;omega) (by omega) (fun q=>by rw [List.length_drop] at q ⊢;omega) (fun k hk=>?_),List.append_assoc,List.take_append_drop]
  have h2:=hs (k+1) (by rw [List.length_drop] at hk;omega)
  rw [List.drop_drop,show 234+234*k=234*(k+1) by omega,← h2]
  congr 1
  omega
end Go.Proofs.YtgipenahkmbelaaGreatDoor
