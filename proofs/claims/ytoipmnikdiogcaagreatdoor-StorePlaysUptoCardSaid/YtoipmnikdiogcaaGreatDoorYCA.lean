/-
  AreL, Mor5, Jou0.
-/
import Derived.Test.YtoipmnikdiogcaaGreatDoorYBX
import Derived.Deep.Upon
import Derived.Great.BuildSlice
set_option maxHeartbeats 64000000
namespace Go.Proofs.YtoipmnikdiogcaaGreatDoor
open Go Go.RowKit
theorem yKd (img:zB) (x:Nat × zB) (u:List (Nat × zB)):yBD img (x::u)=yBD (lay img (x.1*256) x.2) u:=rfl
set_option maxRecDepth 10000 in
theorem yDF (n j:Nat):∀ (u:List (Nat × zB)) (img:zB),img.length=256*n→(∀ x ∈ u,x.1≠j∧x.1<n∧x.2.length≤256)→cut (yBD img u) (j*256) 256=cut img (j*256) 256:=by
 intro u
 induction u with
 |nil=>intro img _ _;rfl
 |cons x u ih=>
  intro img hl h;obtain ⟨h1,h2,h3⟩:=h x zW;have hb:x.1*256+x.2.length≤img.length:=zO;rw [yKd,ih _ (by rw [yBL _ _ _ hb];exact hl) (fun y hy=>h y (by simp [hy]))];clear ih h;rcases Nat.lt_or_ge j x.1 with hlt|gu
  ·have hh:j*256+256≤x.1*256:=by omega
   exact yEQ _ _ _ _ _ hb hh
  ·have hh:x.1*256+x.2.length≤j*256:=by omega
   exact yDJ _ _ _ _ _ hb hh
theorem yF9 (img s:zB) (o d:Nat) (hs:s.length=256) (hd:d≤256) (h:o+256≤img.length):cut (lay img o (s.take d)) o 256=yLx s (cut img o 256) d:=by
 have jU:(s.take d).length=d:=by rw [zLg];omega
 unfold cut lay yLx;rw [List.drop_left' (by simp;omega),jU,zLF,jU,zLi zO,List.drop_take,List.drop_drop]
def yHw (l:Nat):Nat:=(l+233) / 234
def pcs (aa:Int):Nat→Nat→zB→List (Nat × zB)
 |0,_,_=>[]
 |f+1,a,v=>if v=[] then [] else (a,yAF aa (v.take 234))::pcs aa f (a+1) (v.drop 234)
theorem yPy (aa:Int) (f a:Nat):pcs aa f a []=[]:=by cases f <;> simp [pcs]
theorem yHS (aa:Int) (f a:Nat) (v:zB) (h:v≠[]):pcs aa (f+1) a v=(a,yAF aa (v.take 234))::pcs aa f (a+1) (v.drop 234):=by show (if v=[] then _ else _)=_;rw [if_neg h]
theorem yUv (aa:Int):∀ (f a:Nat) (v:zB),∀ x ∈ pcs aa f a v,a≤x.1∧x.1<a+yHw v.length∧x.2.length=256:=by
 intro f
 induction f with
 |zero=>intro a v x hx;cases hx
 |succ f ih=>
  intro a v x hx;by_cases hv:v=[]
  ·rw [hv,yPy] at hx;cases hx
  ·rw [yHS _ _ _ _ hv] at hx;have hp:=zLv.2 hv;rcases zLm.1 hx with rfl|hx
   ·exact ⟨Nat.le_refl _,by unfold yHw;dsimp only;omega,yBk _ _ (by rw [zLg];omega)⟩
   ·obtain ⟨h1,h2,h3⟩:=ih (a+1) (v.drop 234) x hx;rw [zLf] at h2;unfold yHw at h2 ⊢;exact ⟨zO,zO,h3⟩
def yUw (dn:Nat→Nat) (u:List (Nat × zB)) (s:Nat):List (Nat × zB):=(u.zipIdx s).map fun x=>(x.1.1,x.1.2.take (dn x.2))
theorem yKe (dn:Nat→Nat) (x:Nat × zB) (u:List (Nat × zB)) (s:Nat):yUw dn (x::u) s=(x.1,x.2.take (dn s))::yUw dn u (s+1):=rfl
theorem yPz (dn:Nat→Nat):∀ (u:List (Nat × zB)) (s:Nat),∀ x ∈ yUw dn u s,∃ y ∈ u,x.1=y.1∧x.2.length≤y.2.length:=by
 intro u
 induction u with
 |nil=>intro s x hx;cases hx
 |cons y u ih=>
  intro s x hx;rw [yKe] at hx;rcases zLm.1 hx with rfl|hx
  ·exact ⟨y,by simp,rfl,by dsimp only;rw [zLg];omega⟩
  ·obtain ⟨z,hz,h⟩:=ih (s+1) x hx;exact ⟨z,by simp [hz],h⟩
theorem yN1 (dn:Nat→Nat) (hd:∀ k,dn k=256):∀ (u:List (Nat × zB)) (s:Nat),(∀ x ∈ u,x.2.length=256)→yUw dn u s=u:=by
 intro u
 induction u with
 |nil=>intro s _;rfl
 |cons y u ih=>
  intro s h;rw [yKe,ih (s+1) (fun x hx=>h x (by simp [hx])),hd,zLi (by have:=h y zW;omega)]
theorem ySc (img:zB) (kept:List Bool) (torn bytes:Int) (u:List (Nat × zB)):yB7 img kept torn bytes u=yBD img (yUw (done kept torn bytes) u 0):=by unfold yB7 yBD yUw;rw [List.foldl_map]
theorem yW9 (kept:List Bool) (torn bytes:Int) (k:Nat):done kept torn bytes k≤256:=by
 unfold done;split
 ·omega
 ·split <;> omega
theorem yQI (aa:Int) (n:Nat) (dn:Nat→Nat) (hd:∀ k,dn k≤256):∀ (f a m s:Nat) (v img:zB),img.length=256*n→a+yHw v.length≤n→∀ k,234*k<v.length→∃ d,d≤256∧cut (yBD img (yUw dn ((pcs aa f a v).take m) s)) ((a+k)*256) 256=yLx (yAF aa ((v.drop (234*k)).take 234)) (cut img ((a+k)*256) 256) d∧((∀ k,dn k=256)→v.length≤234*f→(pcs aa f a v).length≤m→d=256):=by
 intro f
 induction f with
 |zero=>intro a m s v img hl hn k hk;exact ⟨0,zO,by simp [pcs,yUw,yLx,yBD],fun _ h=>by omega⟩
 |succ f ih=>
  intro a m s v img hl hn k hk;have hv:v≠[]:=by rintro rfl;simp at hk
  have hp:=zLv.2 hv;cases m with
  |zero=>exact ⟨0,zO,by simp [yUw,yLx,yBD],fun _ _ h=>by rw [yHS _ _ _ _ hv] at h;simp at h⟩
  |succ m=>
   have hs:(v.take 234).length≤234:=by rw [zLg];omega
   have hS:=yBk aa _ hs;have iH:a+1≤n∧a+1+yHw (v.drop 234).length≤n:=by rw [zLf];unfold yHw at hn ⊢;omega
   rw [yHS _ _ _ _ hv,List.take_succ_cons,yKe,yKd];dsimp only;have jU:((yAF aa (v.take 234)).take (dn s)).length=dn s:=by rw [zLg];have:=hd s;omega
   have hb:a*256+((yAF aa (v.take 234)).take (dn s)).length≤img.length:=by rw [jU];have:=hd s;omega
   cases k with
   |zero=>
    refine ⟨dn s,hd s,?_,fun h _ _=>h s⟩;show cut _ (a*256) 256=yLx (yAF aa (v.take 234)) (cut img (a*256) 256) (dn s);rw [yDF n a _ _ (by rw [yBL _ _ _ hb];exact hl) (fun x hx=>?_)]
    ·exact yF9 _ _ _ _ hS (hd s) zO
    ·obtain ⟨y,hy,e1,e2⟩:=yPz _ _ _ _ hx;obtain ⟨h1,h2,h3⟩:=yUv _ _ _ _ y (List.mem_of_mem_take hy);exact ⟨zO,zO,zO⟩
   |succ k=>
    obtain ⟨d,h1,h2,h3⟩:=ih (a+1) m (s+1) (v.drop 234) (lay img (a*256) ((yAF aa (v.take 234)).take (dn s))) (by rw [yBL _ _ _ hb];exact hl) iH.2 k (by rw [zLf];omega);refine ⟨d,h1,?_,fun q1 q2 q3=>h3 q1 (by rw [zLf];omega) (by simpa using q3)⟩;have e1:(a+1+k)*256=(a+(k+1))*256:=zO;rw [e1,List.drop_drop,show 234+234*k=234*(k+1) by omega,yDJ _ _ _ _ _ hb (by have:=hd s;omega)] at h2;exact h2
theorem yKf (new old:zB) (h:new.length=256) (h2:old.length=256):yLx new old 256=new:=by unfold yLx;rw [zLi zO,zLl zO,zLs]
theorem yIG {D:Dsk} (h:D.off=false) (i:Nat) (hi:i<D.n) (s:zB) (hs:s.length=256) :((D.writeE i s=0∧(D.writeD i s).off=false)∨D.writeE i s=12)∧(D.writeD i s).und=D.und++[(i,s)]∧(D.writeD i s).img=D.img∧(D.writeD i s).n=D.n∧(D.armed=-1→D.writeE i s=0∧(D.writeD i s).armed=-1):=by
 have aQ:D.has (i:Int)=true:=by unfold Dsk.has;exact zY zO
 obtain ⟨n,img,und,off,armed,wr,fl,lf⟩:=D;obtain rfl:off=false:=h;by_cases h0:armed=0
 ·subst h0;simp [Dsk.writeE,Dsk.writeD,Dsk.dead,Dsk.gone,aQ,hs]
 ·by_cases hp:0<armed
  ·simp [Dsk.writeE,Dsk.writeD,Dsk.dead,Dsk.gone,aQ,hs,h0,hp];omega
  ·simp [Dsk.writeE,Dsk.writeD,Dsk.dead,Dsk.gone,aQ,hs,h0,hp]
theorem yLI {D:Dsk} (h:D.off=false) :((D.flushE=0∧D.flushD.off=false∧D.flushD.und=[]∧D.flushD.img=yBD D.img D.und)∨(D.flushE=12∧D.flushD.und=D.und∧D.flushD.img=D.img))∧D.flushD.n=D.n∧(D.armed=-1→D.flushE=0∧D.flushD.armed=-1):=by
 obtain ⟨n,img,und,off,armed,wr,fl,lf⟩:=D;obtain rfl:off=false:=h;by_cases h0:armed=0
 ·subst h0;simp [Dsk.flushE,Dsk.flushD,Dsk.dead,Dsk.gone]
 ·by_cases hp:0<armed
  ·simp [Dsk.flushE,Dsk.flushD,Dsk.dead,Dsk.gone,h0,hp];omega
  ·simp [Dsk.flushE,Dsk.flushD,Dsk.dead,Dsk.gone,h0,hp]
theorem yUx (aa:Int) (at_:Nat):∀ (f:Nat) (D:Dsk) (i:Nat) (v:zB),D.off=false→D.ok→v.length≤234*f→at_+i+yHw v.length≤D.n→(((yDv at_ aa f D i v).1=0∧(yDv at_ aa f D i v).2.off=false∧(yDv at_ aa f D i v).2.und=[]∧(yDv at_ aa f D i v).2.img=yBD D.img (D.und++pcs aa f (at_+i) v))∨ ((yDv at_ aa f D i v).1=12∧(yDv at_ aa f D i v).2.img=D.img∧∃ m,(yDv at_ aa f D i v).2.und=D.und++(pcs aa f (at_+i) v).take m))∧ (yDv at_ aa f D i v).2.n=D.n∧(yDv at_ aa f D i v).2.ok∧(D.armed=-1→(yDv at_ aa f D i v).1=0∧(yDv at_ aa f D i v).2.armed=-1):=by
 have dH:∀ (f:Nat) (D:Dsk) (i:Nat),D.off=false→D.ok→(((yDv at_ aa f D i []).1=0∧(yDv at_ aa f D i []).2.off=false∧(yDv at_ aa f D i []).2.und=[]∧(yDv at_ aa f D i []).2.img=yBD D.img (D.und++pcs aa f (at_+i) []))∨
  ((yDv at_ aa f D i []).1=12∧(yDv at_ aa f D i []).2.img=D.img∧∃ m,(yDv at_ aa f D i []).2.und=D.und++(pcs aa f (at_+i) []).take m))∧
  (yDv at_ aa f D i []).2.n=D.n∧(yDv at_ aa f D i []).2.ok∧(D.armed=-1→(yDv at_ aa f D i []).1=0∧(yDv at_ aa f D i []).2.armed=-1):=by
  intro f D i ho hk;rw [yJA,yPy];obtain ⟨h1,h2,h3⟩:=yLI ho;refine ⟨?_,h2,Dsk.flushD_ok hk,h3⟩;rcases h1 with ⟨a,b,c,d⟩|⟨a,b,c⟩
  ·exact .inl ⟨a,b,c,by rw [zLs];exact d⟩
  ·exact .inr ⟨a,c,0,by simpa using b⟩
 intro f
 induction f with
 |zero=>
  intro D i v ho hk hv hn;have:v=[]:=List.length_eq_zero_iff.1 zO;subst this;exact dH 0 D i ho hk
 |succ f ih=>
  intro D i v ho hk hv hn;by_cases h0:v=[]
  ·subst h0;exact dH (f+1) D i ho hk
  have hp:=zLv.2 h0;have iH:at_+i<D.n∧at_+(i+1)+yHw (v.drop 234).length≤D.n:=by rw [zLf];unfold yHw at hn ⊢;omega
  have hS:=yBk aa (v.take 234) (by rw [zLg];omega);obtain ⟨w1,w2,w3,w4,w5⟩:=yIG ho (at_+i) iH.1 _ hS;have am:=Dsk.writeD_ok hk ((at_+i:Nat):Int) (yAF aa (v.take 234))
  have hu:yDv at_ aa (f+1) D i v=if D.writeE ((at_+i:Nat):Int) (yAF aa (v.take 234))≠0 then (D.writeE ((at_+i:Nat):Int) (yAF aa (v.take 234)),D.writeD ((at_+i:Nat):Int) (yAF aa (v.take 234)))
   else yDv at_ aa f (D.writeD ((at_+i:Nat):Int) (yAF aa (v.take 234))) ((i+1:Nat):Int) (v.drop 234):=by
   show (if v=[] then _ else _)=_;rw [if_neg h0];rfl
  rw [hu,yHS _ _ _ _ h0];clear hu;rcases w1 with ⟨a,b⟩|a
  ·rw [if_neg (by rw [a];simp)];obtain ⟨r1,r2,r3,r4⟩:=ih (D.writeD ((at_+i:Nat):Int) (yAF aa (v.take 234))) (i+1) (v.drop 234) b am (by rw [zLf];omega) (by rw [w4];exact iH.2);refine ⟨?_,by rw [r2,w4],r3,fun q=>r4 (w5 q).2⟩;rcases r1 with ⟨c1,c2,c3,c4⟩|⟨c1,c2,m,c3⟩
   ·refine .inl ⟨c1,c2,c3,?_⟩;rw [c4,w3,w2,zLd];rfl
   ·refine .inr ⟨c1,by rw [c2,w3],m+1,?_⟩;rw [c3,w2,zLd];rfl
  ·rw [if_pos (by rw [a];simp)];exact ⟨.inr ⟨a,w3,1,by rw [w2];rfl⟩,w4,am,fun q=>by rw [(w5 q).1] at a;cases a⟩
theorem yZK {D:Dsk} (ae:D.off=false) (fh:D.und=[]) (at_ aa:Nat) (h0:aa≠0):∀ (f i:Nat) (v an:zB) (bytes:Int),f=yHw v.length→at_+i+f≤D.n→(0<v.length→bytes=234*(i:Int)+v.length)→(∀ k,234*k<v.length→D.sec (at_+i+k)=yAF aa ((v.drop (234*k)).take 234))→yMO D at_ aa bytes f i an=(an++v,0):=by
 intro f
 induction f with
 |zero=>
  intro i v an bytes hf hn hb hs;have:v=[]:=List.length_eq_zero_iff.1 (by unfold yHw at hf;omega);subst this;simp [yMO]
 |succ f ih=>
  intro i v an bytes hf hn hb hs;have hp:0<v.length:=by unfold yHw at hf;omega
  have hb:=hb hp;have hi:D.has ((at_+i:Nat):Int)=true:=by unfold Dsk.has;exact zY zO
  have hE:D.readE ((at_:Int)+i)=0:=by show D.readE ((at_+i:Nat):Int)=0;unfold Dsk.readE;rw [ae,hi];rfl
  have hS:D.readS ((at_:Int)+i)=D.sec (at_+i):=by show D.readS ((at_+i:Nat):Int)=D.sec (at_+i);unfold Dsk.readS Dsk.rd;rw [ae,hi,fh];rfl
  have h1:=hs 0 zO;rw [zLz,Nat.mul_zero,zLo] at h1;have hl:(v.take 234).length≤234:=by rw [zLg];omega
  have ho:=yNW aa (v.take 234) hl h0;unfold yMO;rw [hE,hS,h1,ho,if_neg zW];dsimp only;rw [if_neg (by rw [zLg];omega),ih (i+1) (v.drop 234) (an++v.take 234) bytes (by rw [zLf];unfold yHw at hf ⊢;omega) zO (fun q=>by rw [zLf] at q ⊢;omega) (fun k hk=>?_),zLd,zLu];have h2:=hs (k+1) (by rw [zLf] at hk;omega);rw [List.drop_drop,show 234+234*k=234*(k+1) by omega,← h2];congr 1;omega
section
variable {P:Program} {W:World} {n:Nat} {E:Env} {H:List SP} {t u:TypeId} {x y:Operand} {kd:IntKind}
theorem yBc {i j r:Int} (hx:Env.ev E x=some (.int kd i)) (hy:Env.ev E y=some (.int kd j)) (hb:0≤i∧0<j) (h:i % j=r):Ev P W n E H (.binOp .rem t x y u) (.int kd r):=by subst h;exact yFX hx hy hb
theorem yCF {i j r:Int} (hx:Env.ev E x=some (.int kd i)) (hy:Env.ev E y=some (.int kd j)) (h:kd.wrap (i+j)=r):Ev P W n E H (.binOp .add t x y u) (.int kd r):=by subst h;exact yQq hx hy
theorem yD5 {i j r:Int} (hx:Env.ev E x=some (zi i)) (hy:Env.ev E y=some (zi j)) (hb:0≤i∧i≤9223372036854775807∧0<j) (h:i / j=r):Ev P W n E H (.binOp .quo t x y u) (zi r):=by subst h;exact yO0 hx hy hb
theorem yQJ {i j m:Int} {ts:Array TypeId} (hx:Env.ev E x=some (.int kd i)) (hy:Env.ev E y=some (.int kd j)) (h:max i j=m):Ev P W n E H (.call { callee:=.builtin .max,args:=#[x,y],argTypes:=ts }) (.int kd m):=by subst h;exact yYv hx hy
theorem yZL {i j r:Int} (hx:Env.ev E x=some (.int kd i)) (hy:Env.ev E y=some (.int kd j)) (h:bits .or kd i j=r):Ev P W n E H (.binOp .or t x y u) (.int kd r):=by subst h;exact yZH hx hy
end
def xBw (o:Option Obj) (n c:Nat) (l:zB) (e:TypeId):Prop:=
 ∃ aw lo hi,o=some (.cells aw e (lo,hi))∧(hi≤lo∨aw.size≤lo)∧l.length=n∧n≤c∧aw.size=c∧aw.toList.take n=bvs l
def yMP (g n c:Nat) (l:zB) (e:TypeId):SP:=⟨9,g,fun h=>xBw (h g) n c l e⟩
theorem yZM {g n c:Nat} {l:zB} {e:TypeId}:∀ h k,Hl.le h k→(yMP g n c l e).ok h→(yMP g n c l e).ok k:=fun _ _ le ⟨aw,lo,hi,q,r⟩=>⟨aw,lo,hi,le _ _ q,r⟩
theorem yXa (cs:List Value) (o:Nat) (v:Value) (vs:List Value) (h:o<cs.length):lay (cs.set o v) (o+1) vs=lay cs o (v::vs):=by
 have e:=List.set_eq_take_append_cons_drop (l:=cs) (i:=o) (a:=v);rw [if_pos h] at e;have hl:(cs.take o).length=o:=by rw [zLg];omega
 have t1:(cs.set o v).take (o+1)=cs.take o++[v]:=by rw [e,zLF,zLi zO,hl,show o+1-o=1 by omega];rfl
 have t2:(cs.set o v).drop (o+1+vs.length)=cs.drop (o+(vs.length+1)):=by rw [List.drop_set_of_lt zO];congr 1;omega
 unfold lay;rw [t1,t2];simp
theorem yMQ (b:Nat) (T:TypeId) (fz:Nat × Nat):∀ (vs:List Value) (o:Nat) (cs:List Value) (w:World),w.heap[b]? = some (.cells cs.toArray T fz)→o+vs.length≤cs.length→(w.setCells b o vs).heap[b]? = some (.cells (lay cs o vs).toArray T fz)∧(∀ k,k≠b→(w.setCells b o vs).heap[k]? = w.heap[k]?)∧(w.setCells b o vs).os=w.os∧(w.setCells b o vs).tape=w.tape∧(w.setCells b o vs).output=w.output∧(w.setCells b o vs).heap.size=w.heap.size:=by
 intro vs
 induction vs with
 |nil=>intro o cs w h _;rw [yMo];exact ⟨h,fun _ _=>rfl,rfl,rfl,rfl,rfl⟩
 |cons v vs ih=>
  intro o cs w h hl;rw [zLj] at hl;have hh:(w.setCell ⟨b,o,none⟩ v).heap[b]? = some (.cells (cs.set o v).toArray T fz):=by rw [setCell_eq_setRow w b o _ _ _ v h,setRow_heap w b _ _ _ _ h];simp
  obtain ⟨i1,i2,i3,i4,i5,i6⟩:=ih (o+1) (cs.set o v) (w.setCell ⟨b,o,none⟩ v) hh (by rw [List.length_set];omega);rw [yXa _ _ _ _ zO] at i1;exact ⟨i1,fun k hk=>(i2 k hk).trans (heap_setCell_other w ⟨b,o,none⟩ k v hk),i3,i4,i5,i6.trans (by simp [World.setCell])⟩
section
variable {P:Program} {W:World} {n d:Nat} {E:Env} {H H' R:List SP} {s t u e:TypeId} {x y:Operand} {k:KK} {T:TypeId} {b off:Nat}
theorem yD6 {kd yk:IntKind} {i j r:Int} (hx:Env.ev E x=some (.int kd i)) (hy:Env.ev E y=some (.int yk j)) (hj:0≤j) (h:i.fdiv (2 ^ (min j.toNat kd.bits))=r):Ev P W n E H (.binOp .shr t x y u) (.int kd r):=by subst h;exact yTG hx hy hj
theorem yMR {kd yk:IntKind} {i j r:Int} (hx:Env.ev E x=some (.int kd i)) (hy:Env.ev E y=some (.int yk j)) (hj:0≤j) (h:kd.wrap (i*2 ^ (min j.toNat kd.bits))=r):Ev P W n E H (.binOp .shl t x y u) (.int kd r):=by subst h;exact yTF hx hy hj
theorem KJ.toRow {g m size:Nat} {vs:List Value} (hs:Sel (yAj g vs e) H R) (hl:vs.length=m*size) (hm:m≤maxLen) (h:KJ W n k E (yA4 (.slice (zq g) m m) e size m vs::R)):KJ W n k E H:=
 ⟨fun a w q s=>h.go a w q ((s.perm (hs.app _).perm).mono fun g' ⟨h1,h2,dj,l1,l2,a1,a2⟩=>⟨h1,h2,dj,l1,l2,⟨hl,.inr ⟨g,m,vs.toArray,rfl,a1,Nat.le_refl _,hm,by simpa using hl,by rw [← hl];simp⟩⟩,a2⟩)⟩
theorem yKg {x0 x1 x2 x3 x4:Operand} {v0 v1 v2 v3 v4:UInt8} (h0:Env.ev E x0=some (.int .u8 (v0.toNat:Int))) (h1:Env.ev E x1=some (.int .u8 (v1.toNat:Int))) (h2:Env.ev E x2=some (.int .u8 (v2.toNat:Int))) (h3:Env.ev E x3=some (.int .u8 (v3.toNat:Int))) (h4:Env.ev E x4=some (.int .u8 (v4.toNat:Int))) [hu:UIs P t (.slice e)] [hs:SzIs P e 1] {zs:List Value} [hz:ZcIs P e zs] (hn:Nat.blt d n=true) (h:∀ g,KJ W n k ((d,.slice (zq g) 5 5)::E) (yAj g (bvs [v0,v1,v2,v3,v4]) e::H)) :KJ W n (.oper P (.buildSlice t 5 #[(0,x0),(1,x1),(2,x2),(3,x3),(4,x4)]) (some d) k) E H:=by
 refine ⟨fun a w p s o ho hd=>?_⟩;have hz:=hz.h;have hs:=hs.h;cases hq:P.info? e with
 |none=>simp [hq] at hz
 |some it=>
  simp [hq] at hz hs;obtain ⟨zv,dN,eb⟩:=hz;have hf:Instr.fill (fun i=>some (i*it.size,it.size)) ((Array.range (5*it.size)).map (zv.cells[· % zv.cells.size]!)) [(0,bv v0),(1,bv v1),(2,bv v2),(3,bv v3),(4,bv v4)]=some (bvs [v0,v1,v2,v3,v4]).toArray:=by rw [hs];exact Great.fill_flat (bvs [v0,v1,v2,v3,v4]) _ (fun v hv=>by obtain ⟨c,_,rfl⟩:=List.mem_map.1 hv;rfl) (by simp [bvs])
  have hr:=run_buildSlice (P:=P) w t e 5 #[(0,bv v0),(1,bv v1),(2,bv v2),(3,bv v3),(4,bv v4)] _ it zv hu.h hq dN (by rw [hs];omega) (by rw [hs];omega) hf;show uponP P o a _ ((execOp a.eval o).run P w);have aN:(execOp a.eval o).run P w=.ok (.value (.slice (some ⟨w.heap.size,0,none⟩) 5 5)) (w.alloc (.cells (bvs [v0,v1,v2,v3,v4]).toArray e)):=by simp only [bv] at hr;simp only [execOp,ho,List.map_toArray,List.map_cons,List.map_nil,p.ev h0,p.ev h1,p.ev h2,p.ev h3,p.ev h4,Sem.run_bind,Sem.run_pure,Result.andThen_ok,hr]
  rw [aN];have:=(h w.heap.size).go _ _ (p.put (d:=some d) hn _) s.new;rw [← hd] at this;exact this
theorem yHT {l:zB} (hx:Env.ev E x=some (strV l)) [hs:UIs P s .string] [ht:UIs P t (.slice e)] [he:UIs P e (.int .u8)] (hn:Nat.blt d n=true) (h:∀ g c,KJ W n k ((d,.slice (zq g) l.length c)::E) (yMP g l.length c l e::H)):KJ W n (.oper P (.convert s t x) (some d) k) E H:=by
 refine ⟨fun a w p q o ho hd=>?_⟩;have hr:=run_bytes_of_string w s t e ⟨l.toArray⟩ hs.h ht.h he.h;obtain ⟨c,hc⟩:∃ c,c=grownCap w (⟨l.toArray⟩:ByteArray).size 0 e:=⟨_,rfl⟩;have gu:l.length≤c:=by rw [hc];exact grownCap_ge w _ 0 e
 rw [← hc] at hr;obtain ⟨cs,dx⟩:∃ cs:List Value,cs=bvs l++List.replicate (c-l.length) (.int .u8 0):=⟨_,rfl⟩;have aC:bytesRow ⟨l.toArray⟩ c=cs.toArray:=by rw [dx];unfold bytesRow;apply Array.ext';simp [bvs,bv,ByteArray.size]
 have dS:cs.length=c:=by rw [dx];simp [bvs];omega
 rw [aC] at hr;show uponP P o a _ ((execOp a.eval o).run P w);have e2:(execOp a.eval o).run P w=.ok (.value (.slice (some ⟨w.heap.size,0,none⟩) l.length c)) (w.drew.alloc (.cells cs.toArray e (cs.length,cs.length+1))):=by
  have e3:(convert s t (strV l)).run P w=.ok (.slice (some ⟨w.heap.size,0,none⟩) l.length c) (w.drew.alloc (.cells cs.toArray e (cs.length,cs.length+1))):=by have:=hr;simpa [strV,ByteArray.size] using this
  simp only [execOp,ho,p.ev hx,Sem.run_bind,e3,Result.andThen_ok,Sem.run_pure]
 rw [e2];have st:St W (yMP w.heap.size l.length c l e::(H++dm a.defers)) (w.drew.alloc (.cells cs.toArray e (cs.length,cs.length+1))):=by
  refine St.act (A:=[]) (B:=[yMP w.heap.size l.length c l e]) (H:=H++dm a.defers) q rfl rfl rfl (by show w.heap.size≤(w.heap.push _).size;simp) ?_;intro h1 _ _;refine ⟨Hl.one w.heap.size (.cells cs.toArray e (cs.length,cs.length+1)),yBP ⟨cs.toArray,cs.length,cs.length+1,Hl.one_self _ _,.inr zW,rfl,gu,by simpa using dS,?_⟩,fun k x hx=>?_,fun k x hx=>?_,fun k hk _=>Below.heap_alloc _ _ _ hk⟩
  ·rw [dx];show (bvs l++_).take l.length=_;rw [List.take_left' (bvs_length' l)]
  ·obtain ⟨rfl,rfl⟩:=Hl.one_some hx;exact heap_alloc_new w.drew _
  ·obtain ⟨rfl,rfl⟩:=Hl.one_some hx;exact .inr (Nat.le_refl _)
 have:=(h w.heap.size c).go _ _ (p.put (d:=some d) hn _) st;rw [← hd] at this;exact this
theorem St.buf {w:World} {g m c:Nat} {l:zB} (q:St W H w) (hs:Sel (yMP g m c l e) H R):xBw w.heap[g]? m c l e:=by obtain ⟨h,⟨aw,lo,hi,q1,r⟩,ls⟩:=q.sel hs yZM;exact ⟨aw,lo,hi,(ls _ _ q1).2,r⟩
theorem yFw {g m c:Nat} {l:zB} (hx:Env.ev E x=some (.slice (zq g) m c)) [hs:UIs P s (.slice e)] [he:UIs P e (.int .u8)] [hd:UIs P u .string] (ap:Sel (yMP g m c l e) H R):Ev P W n E H (.convert s u x) (strV l):=
 Ev.mk fun o ho a w p q=>by
  obtain ⟨aw,lo,hi,hh,_,hm,hmc,bu,bZ⟩:=q.buf ap;subst hm;have hr:=run_convert_bytes_back (P:=P) w s u e ⟨g,0,none⟩ c l hs.h he.h hd.h (fun j hj=>by
   rw [Addr.add_mid,zLq,cell_of_row w g j _ _ _ hh];have h2:(aw.toList.take l.length)[j]? = some (bv l[j]):=by rw [bZ];simp [bvs,hj]
   rw [List.getElem?_take,if_pos hj] at h2;simpa [bv] using h2)
  simp only [execOp,ho,p.ev hx,Sem.run_bind,hr,Result.andThen_ok,Sem.run_pure]
theorem yEG {g m c:Nat} {l r:zB} (hx:Env.ev E x=some (.slice (zq g) m c)) (hy:Env.ev E y=some (strV r)) [hu:UIs P t (.slice e)] [hstr:UIs P u .string] [hs:SzIs P e 1] [hb:ByIs P e 1] [hz:ZcIs P e [.int .u8 0]] (ap:Sel (yMP g m c l e) H R) (fO:m+r.length≤140737488355328) (hn:Nat.blt d n=true) (h:∀ g' c',KJ W n k ((d,.slice (zq g') (m+r.length) c')::E) (yMP g' (m+r.length) c' (l++r) e::R)):KJ W n (.oper P (.call { callee:=.builtin .append,args:=#[x,y],argTypes:=#[t,u] }) (some d) k) E H:=by
 refine ⟨fun a w p q o ho hd=>?_⟩
 replace ap:=ap.app (dm a.defers)
 have hz:=hz.h;have hs:=hs.h;have hb:=hb.h;cases hq:P.info? e with
 |none=>simp [hq] at hz
 |some it=>
  simp [hq] at hz hs hb;obtain ⟨zv,dN,eb⟩:=hz;obtain ⟨aw,lo,hi,hh,hfz,hm,hmc,bu,bZ⟩:=q.buf ap;have cD:∀ j,w.cell? ⟨g,j,none⟩=aw[j]?:=fun j=>cell_of_row w g j _ _ _ hh;have dD:Go.Src P it.size u (strV r) r.length (bvs r) w:=by
   have:=Go.Src.ofString w hstr.h ⟨r.toArray⟩;rw [hs];have e1:byteCells ⟨r.toArray⟩=bvs r:=by simp [byteCells,bvs,bv]
   rw [e1] at this;exact this
  have dG:=bvs_length' r
  suffices hw:∃ g' c' w',(Builtin.append_ #[t,u] o.type #[.slice (zq g) m c,strV r]).run P w=.ok (.slice (zq g') (m+r.length) c') w'∧St W (yMP g' (m+r.length) c' (l++r) e::(R++dm a.defers)) w' by
   obtain ⟨g',c',w',av,st⟩:=hw;show uponP P o a _ ((execOp a.eval o).run P w);have aN:(execOp a.eval o).run P w=.ok (.value (.slice (zq g') (m+r.length) c')) w':=by simp only [execOp,ho,resolve,invoke,builtin,Sem.run_bind,Sem.run_pure,Result.andThen_ok,List.map_toArray,List.map_cons,List.map_nil,p.ev hx,p.ev hy,av]
   rw [aN];have:=(h g' c').go _ w' (p.put (d:=some d) hn _) st;rw [← hd] at this;exact this
  have q1:St W ([yMP g m c l e]++(R++dm a.defers)) w:=q.perm ap.perm;by_cases ah:m+r.length≤c
  ·have av:=run_append_room_src (P:=P) w t u o.type e it hu.h hq g 0 m c (strV r) r.length (bvs r) dD ah
    (fun j hj=>by rw [cD,Array.getElem?_eq_getElem (by rw [hs];omega)];rfl)
    (fun j hj=>by simp [World.frozen?,hh];rw [hs];omega)
   rw [hs,Nat.mul_one,zLq] at av;obtain ⟨i1,i2,i3,i4,i5,i6⟩:=yMQ g e (lo,hi) (bvs r) m aw.toList w (by simpa using hh) (by rw [dG];simp;omega);refine ⟨g,c,_,av,?_⟩;refine St.act (A:=[yMP g m c l e]) (B:=[yMP g (m+r.length) c (l++r) e]) (H:=R++dm a.defers) q1 i3 i4 i5 zO ?_;intro h1 ⟨h,_,_,le,_,⟨cur2,lo2,hi2,ed,_⟩,_⟩ ls;have ai:(lay aw.toList m (bvs r)).length=aw.size:=by rw [yBL _ _ _ (by rw [dG];simp;omega)];simp
   refine ⟨Hl.one g (.cells (lay aw.toList m (bvs r)).toArray e (lo,hi)),yBP ⟨_,lo,hi,Hl.one_self _ _,?_,?_,ah,?_,?_⟩,fun k x hx=>?_,fun k x hx=>?_,fun k _ hn=>i2 k ?_⟩
   ·rcases hfz with q|q
    ·exact .inl q
    ·right;simp [ai];exact q
   ·rw [zLa,hm]
   ·simp [ai];exact bu
   ·show (lay aw.toList m (bvs r)).take (m+r.length)=_;unfold lay;rw [← zLd,List.take_left' (by rw [zLa,zLg,dG];simp;omega),bZ];simp [bvs]
   ·obtain ⟨rfl,rfl⟩:=Hl.one_some hx;exact i1
   ·obtain ⟨rfl,rfl⟩:=Hl.one_some hx;exact .inl ⟨_,le _ _ ed⟩
   ·intro e1;subst e1;rw [le _ _ ed] at hn;cases hn
  ·have yDw:(Builtin.firstCells it.size m (.slice (zq g) m c)).run P w.drew=.ok (bvs l).toArray w.drew:=
    run_firstCells_some w.drew it.size m ⟨g,0,none⟩ m c (bvs l) (by rw [bvs_length',hs];omega) (fun j u hj=>by
     have hj2:j<l.length:=by have:=(zLc.1 hj).1;rwa [bvs_length'] at this
     show w.cell? (Addr.add ⟨g,0,none⟩ j)=some u;rw [Addr.add_mid,zLq,cD];rw [← bZ,List.getElem?_take,if_pos zO] at hj;simpa using hj)
   have av:=run_append_grow_src (P:=P) w t u o.type e it zv hu.h hq dN (zq g) m c (bvs l) yDw (strV r) r.length (bvs r) dD zO zO (by rw [hb];exact growslice_fits zO zO);have gu:=grownCap_ge w (m+r.length) c e;refine ⟨_,_,_,av,?_⟩;obtain ⟨cs,dx⟩:∃ cs:List Value,cs=(bvs l++bvs r)++(Builtin.zeroCells zv.cells (grownCap w (m+r.length) c e-(m+r.length))).toList:=⟨_,rfl⟩;have jT:(Builtin.zeroCells zv.cells (grownCap w (m+r.length) c e-(m+r.length))).size=grownCap w (m+r.length) c e-(m+r.length):=by unfold Builtin.zeroCells;simp [eb]
   have hca:(bvs l++bvs r).toArray++Builtin.zeroCells zv.cells (grownCap w (m+r.length) c e-(m+r.length))=cs.toArray:=by rw [dx];apply Array.ext';simp
   rw [hca];have dS:cs.length=grownCap w (m+r.length) c e:=by rw [dx];simp [bvs,jT];omega
   refine St.act (A:=[yMP g m c l e]) (B:=[yMP w.heap.size (m+r.length) (grownCap w (m+r.length) c e) (l++r) e]) (H:=R++dm a.defers) q1 rfl rfl rfl (by show w.heap.size≤(w.heap.push _).size;simp) ?_;intro h1 _ ls;refine ⟨Hl.one w.heap.size (.cells cs.toArray e),yBP ⟨_,0,0,Hl.one_self _ _,.inl (Nat.le_refl _),by rw [zLa,hm],gu,by simpa using dS,?_⟩,fun k x hx=>?_,fun k x hx=>?_,fun k hk _=>Below.heap_alloc _ _ _ hk⟩
   ·show cs.take (m+r.length)=_;rw [dx,List.take_left' (by rw [zLa,bvs_length',bvs_length'];omega)];simp [bvs]
   ·obtain ⟨rfl,rfl⟩:=Hl.one_some hx;exact heap_alloc_new w.drew _
   ·obtain ⟨rfl,rfl⟩:=Hl.one_some hx;exact .inr (Nat.le_refl _)
theorem yFx {a b:zB} (hx:Env.ev E x=some (strV a)) (hy:Env.ev E y=some (strV b)) (hb:a.length+b.length≤9223372036854775807:=by first|omega|(simp only [zLa,zLj,List.length_nil];omega)):Ev P W n E H (.binOp .add t x y u) (strV (a++b)):=yFk hx hy hb
end
end Go.Proofs.YtoipmnikdiogcaaGreatDoor
