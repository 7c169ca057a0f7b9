/-
  Rdk2, Rdk3, Fatep.
-/
import Derived.Test.YtoipmnikdiogcaaGreatDoorYGD
set_option maxHeartbeats 64000000
namespace Go.Proofs.YtoipmnikdiogcaaGreatDoor
open Go Go.RowKit
open Go.Proofs.Tryz
abbrev yOD:Pl:=(po [0,1,2,3,4,5,6,7,8] (.ef 9 [] .nil))
theorem yAZ (p:Nat) (D:Dsk) (sv wv:Value):yCE p D (sv,wv)=[yAj p [sv,wv,.bool D.off,.bool (decide (0≤D.armed)),zi (max D.armed 0),zi D.writes,zi D.flushes,zi D.life] 52,yA4 (sv) 9 1 D.n (yBy D.img D.n),yA4 (wv) 128 2 D.und.length (yBV D.und)]:=rfl
theorem yIl {P:Program} {W:World} {f:FuncId} {args:List Value} {X:Type} {r:X→Value} {H':X→List SP} {p:Nat} {D:Dsk} (h:∀ sv wv,Ct P W f args (yCE p D (sv,wv)) r H'):Ct P W f args [yA1 p D] r H':=
 yJ6 (Hs:=[]) (fun ⟨sv,wv⟩=>by rw [zLs];exact h sv wv)
theorem yBW {P:Program} {W:World} {n:Nat} {E:Env} {H R:List SP} {r:Unit→Value} {fn:Func} {rs:List ResultVar} {vs:List Value} {ex:Exit} {p:Nat} {D:Dsk} (hex:ex=.ret∨ex=.normal) (hr:fn.results=rs.toArray) (hv:Rvs P E H rs vs) (hc:yI5 vs=r ()) (sv wv:Value) (h:∀ g,yAH H g→yAH (yCE p D (sv,wv)++R) g):KJ W n (.ex (.top (bodyPostM Fence.wide 0 P fn (yRM W r (fun _=>[yA1 p D]) R))) ex) E H:=
 yA5 hex hr hv () hc (fun g q=>yDP (F:=yCE p D) (sv,wv) g (h g q))
section
variable {P:Program} {W:World} {n:Nat} {E:Env} {H R:List SP} {x y:Operand} {t u:TypeId} {k:IntKind}
theorem yQa {i j m:Int} {ts:Array TypeId} (hx:Env.ev E x=some (.int k i)) (hy:Env.ev E y=some (.int k j)) (h:min i j=m):Ev P W n E H (.call { callee:=.builtin .min,args:=#[x,y],argTypes:=ts }) (.int k m):=by subst h;exact yQs hx hy
theorem yQb {i j m:Int} (hx:Env.ev E x=some (.int k i)) (hy:Env.ev E y=some (.int k j)) (h:k.wrap (i+j)=m):Ev P W n E H (.binOp .add t x y u) (.int k m):=by subst h;exact yQq hx hy
end
theorem yNj (x:Int):IntKind.i64.wrap x=w64 x:=by
 unfold w64 Go.RowKit.wrap64;have:IntKind.i64.wrap x=if x % 18446744073709551616≥9223372036854775808 then x % 18446744073709551616-18446744073709551616 else x % 18446744073709551616:=by simp [IntKind.wrap,IntKind.signed,IntKind.bits]
 rw [this];split <;> omega
section
variable {W:World} {p:Nat} {D:Dsk}
theorem yRn (ha:-1≤D.armed∧D.armed≤9223372036854775807) (ae:D.off=false) (sv wv:Value):CtU prog W 177 [zPp p] (yCE p D (sv,wv)) (.bool D.dead) (yCE p D.gone (sv,wv)):=by
 obtain ⟨n,img,und,off,armed,wr,fl,lf⟩:=D;dsimp only at ha ae;subst ae;rcases (show armed=-1∨armed=0∨0<armed by omega) with h|h|h
 ·have e1:yCE p ({ n:=n,img:=img,und:=und,off:=false,armed:=armed,writes:=wr,flushes:=fl,life:=lf }:Dsk) (sv,wv)=[yAj p [sv,wv,.bool false,.bool false,zi 0,zi wr,zi fl,zi lf] 52,yA4 sv 9 1 n (yBy img n),yA4 wv 128 2 und.length (yBV und)]:=by subst h;rfl
  have e2:yCE p (({ n:=n,img:=img,und:=und,off:=false,armed:=armed,writes:=wr,flushes:=fl,life:=lf }:Dsk)).gone (sv,wv)=[yAj p [sv,wv,.bool false,.bool false,zi 0,zi wr,zi fl,zi lf] 52,yA4 sv 9 1 n (yBy img n),yA4 wv 128 2 und.length (yBV und)]:=by subst h;rfl
  have e3:(({ n:=n,img:=img,und:=und,off:=false,armed:=armed,writes:=wr,flushes:=fl,life:=lf }:Dsk)).dead=false:=by unfold Dsk.dead;exact zZ (by show ¬ armed=0;omega)
  rw [e1,e2,e3];refine zE func177 ntmps177 fun R=>?_;repeat' (first|refine xst ?_|refine xsf ?_ ?_|intro _)
  all_goals exact yA5 zor rfl (by (repeat' (first|exact Rvs.nil|(apply Rvs.tmp;exact rfl)));first|done|fail) () (by rfl) (xN)
 ·have e1:yCE p ({ n:=n,img:=img,und:=und,off:=false,armed:=armed,writes:=wr,flushes:=fl,life:=lf }:Dsk) (sv,wv)=[yAj p [sv,wv,.bool false,.bool true,zi 0,zi wr,zi fl,zi lf] 52,yA4 sv 9 1 n (yBy img n),yA4 wv 128 2 und.length (yBV und)]:=by subst h;rfl
  have e2:yCE p (({ n:=n,img:=img,und:=und,off:=false,armed:=armed,writes:=wr,flushes:=fl,life:=lf }:Dsk)).gone (sv,wv)=[yAj p [sv,wv,.bool true,.bool true,zi 0,zi wr,zi fl,zi lf] 52,yA4 sv 9 1 n (yBy img n),yA4 wv 128 2 und.length (yBV und)]:=by subst h;rfl
  have e3:(({ n:=n,img:=img,und:=und,off:=false,armed:=armed,writes:=wr,flushes:=fl,life:=lf }:Dsk)).dead=true:=by unfold Dsk.dead;exact zY h
  rw [e1,e2,e3];refine zE func177 ntmps177 fun R=>?_;repeat' (first|refine yAq ?_;refine yAa (yAf rfl rfl (q:=false) (by rfl)) ?_|refine xst ?_|refine xsf ?_ ?_|intro _)
  all_goals exact yA5 zor rfl (by (repeat' (first|exact Rvs.nil|(apply Rvs.tmp;exact rfl)));first|done|fail) () (by rfl) (xN)
 ·have e1:yCE p ({ n:=n,img:=img,und:=und,off:=false,armed:=armed,writes:=wr,flushes:=fl,life:=lf }:Dsk) (sv,wv)=[yAj p [sv,wv,.bool false,.bool true,zi armed,zi wr,zi fl,zi lf] 52,yA4 sv 9 1 n (yBy img n),yA4 wv 128 2 und.length (yBV und)]:=by have h1:decide (0≤armed)=true:=zY zO;have h2:max armed 0=armed:=zO;simp only [yCE,xAA,h1,h2]
  have e2:yCE p (({ n:=n,img:=img,und:=und,off:=false,armed:=armed,writes:=wr,flushes:=fl,life:=lf }:Dsk)).gone (sv,wv)=[yAj p [sv,wv,.bool false,.bool true,zi (armed-1),zi wr,zi fl,zi lf] 52,yA4 sv 9 1 n (yBy img n),yA4 wv 128 2 und.length (yBV und)]:=by have h1:decide (0≤armed-1)=true:=zY zO;have h2:max (armed-1) 0=armed-1:=zO;have h3:¬ (armed=0):=zO;simp only [yCE,xAA,Dsk.gone,h3,h,if_true,if_false,h1,h2]
  have e3:(({ n:=n,img:=img,und:=und,off:=false,armed:=armed,writes:=wr,flushes:=fl,life:=lf }:Dsk)).dead=false:=by unfold Dsk.dead;exact zZ (by show ¬ armed=0;omega)
  rw [e1,e2,e3];refine zE func177 ntmps177 fun R=>?_;repeat' (first|refine yAq ?_;refine yAa (yAf rfl rfl (q:=true) (zY h)) ?_|refine xst ?_|refine xsf ?_ ?_|intro _)
  all_goals exact yA5 zor rfl (by (repeat' (first|exact Rvs.nil|(apply Rvs.tmp;exact rfl)));first|done|fail) () (by rfl) (xN)
theorem xAB (k:Int) (hk:k≤9223372036854775807):CtU prog W 28 [zPp p,zi k] [yA1 p D] (.tuple #[]) [yA1 p (D.arm k)]:=by
 refine yIl (fun sv wv=>?_);obtain ⟨n,img,und,off,armed,wr,fl,lf⟩:=D;have h1:decide (0≤max k (-1))=decide (0≤k):=by rw [decide_eq_decide];omega
 have h2:max (max k (-1)) 0=max k 0:=zO;have e2:yCE p ((({ n:=n,img:=img,und:=und,off:=off,armed:=armed,writes:=wr,flushes:=fl,life:=lf }:Dsk)).arm k) (sv,wv)=[yAj p [sv,wv,.bool off,.bool (decide (0≤k)),zi (max k 0),zi wr,zi fl,zi lf] 52,yA4 sv 9 1 n (yBy img n),yA4 wv 128 2 und.length (yBV und)]:=by show [yAj p [sv,wv,.bool off,.bool (decide (0≤max k (-1))),zi (max (max k (-1)) 0),zi wr,zi fl,zi lf] 52,yA4 sv 9 1 n (yBy img n),yA4 wv 128 2 und.length (yBV und)]=_;rw [h1,h2]
 show Ct _ _ _ _ [yAj p [sv,wv,.bool off,.bool (decide (0≤armed)),zi (max armed 0),zi wr,zi fl,zi lf] 52,yA4 sv 9 1 n (yBy img n),yA4 wv 128 2 und.length (yBV und)] _ _;refine zE func28 ntmps28 fun R=>?_;repeat' (first|refine xst ?_|refine xsf ?_ ?_|intro _)
 refine yBW zor rfl (by (repeat' (first|exact Rvs.nil|(apply Rvs.tmp;exact rfl)));first|done|fail) (by rfl) sv wv (fun g q=>?_);rw [e2];exact (xN) g q
theorem yK6 (am:D.ok) (i:Int) (s:zB) (aS:D.und.length<1073741824):CtU prog W 134 [zPp p,zi i,strV s] [yA1 p D] (zi (D.writeE i s)) [yA1 p (D.writeD i s)]:=by
 refine yIl (fun sv wv=>?_);by_cases ae:D.off=true
 ·have e1:D.writeE i s=12:=by unfold Dsk.writeE;rw [if_pos ae]
  have e2:D.writeD i s=D:=by unfold Dsk.writeD;rw [if_pos ae]
  rw [e1,e2];show Ct _ _ _ _ [yAj p [sv,wv,.bool D.off,.bool (decide (0≤D.armed)),zi (max D.armed 0),zi D.writes,zi D.flushes,zi D.life] 52,yA4 (sv) 9 1 D.n (yBy D.img D.n),yA4 (wv) 128 2 D.und.length (yBV D.und)] _ _;rw [ae];refine zE func134 ntmps134 fun R=>?_;repeat' (first|refine xst ?_|refine xsf ?_ ?_|intro _)
  all_goals refine yBW zor rfl (by (repeat' (first|exact Rvs.nil|(apply Rvs.tmp;exact rfl)));first|done|fail) (by rfl) (sv) (wv) (fun g q=>?_)
  show yAH ([yAj p [sv,wv,.bool D.off,.bool (decide (0≤D.armed)),zi (max D.armed 0),zi D.writes,zi D.flushes,zi D.life] 52,yA4 (sv) 9 1 D.n (yBy D.img D.n),yA4 (wv) 128 2 D.und.length (yBV D.und)]++R) g;rw [ae];exact (xN) g q
 have ae:D.off=false:=by simpa using ae
 have az:∀ e:Nat,D.writeE i s=e→D.writeD i s=D→(D.has i=false∨(D.has i=true∧s.length≠256))→(e=if D.has i then 7 else 6)→CtU prog W 134 [zPp p,zi i,strV s] (yCE p D (sv,wv)) (zi (D.writeE i s)) [yA1 p (D.writeD i s)]:=by
  intro e e1 e2 hc he;rw [e1,e2];show Ct _ _ _ _ [yAj p [sv,wv,.bool D.off,.bool (decide (0≤D.armed)),zi (max D.armed 0),zi D.writes,zi D.flushes,zi D.life] 52,yA4 (sv) 9 1 D.n (yBy D.img D.n),yA4 (wv) 128 2 D.und.length (yBV D.und)] _ _;rw [ae];rcases hc with hc|⟨hc,hs⟩
  ·rw [hc] at he;subst he;have jK:¬ (0≤i∧i<D.n):=by unfold Dsk.has at hc;exact of_decide_eq_false hc
   by_cases hi:i<0
   ·have q1:decide (i<0)=true:=zY hi;refine zE func134 ntmps134 fun R=>?_;repeat' (first|refine xqa ?_|refine xsf ?_ ?_|intro _)
    all_goals refine yBW zor rfl (by (repeat' (first|exact Rvs.nil|(apply Rvs.tmp;exact rfl)));first|done|fail) (by rfl) (sv) (wv) (fun g q=>?_)
    all_goals (show yAH ([yAj p [sv,wv,.bool D.off,.bool (decide (0≤D.armed)),zi (max D.armed 0),zi D.writes,zi D.flushes,zi D.life] 52,yA4 (sv) 9 1 D.n (yBy D.img D.n),yA4 (wv) 128 2 D.und.length (yBV D.und)]++R) g;rw [ae];exact (xN) g q)
   ·have q1:decide (i<0)=false:=zZ hi;have q2:decide ((D.n:Int)≤i)=true:=zY zO;refine zE func134 ntmps134 fun R=>?_;refine KJ.row_slice (v:=sv) xS (fun ad c e=>?_);subst e;repeat' (first|refine xqa ?_|refine xsf ?_ ?_|intro _)
    all_goals refine yBW zor rfl (by (repeat' (first|exact Rvs.nil|(apply Rvs.tmp;exact rfl)));first|done|fail) (by rfl) (.slice ad D.n c) (wv) (fun g q=>?_)
    all_goals (show yAH ([yAj p [.slice ad D.n c,wv,.bool D.off,.bool (decide (0≤D.armed)),zi (max D.armed 0),zi D.writes,zi D.flushes,zi D.life] 52,yA4 (.slice ad D.n c) 9 1 D.n (yBy D.img D.n),yA4 (wv) 128 2 D.und.length (yBV D.und)]++R) g;rw [ae];exact (xN) g q)
  ·rw [hc] at he;subst he;have jK:0≤i∧i<D.n:=by unfold Dsk.has at hc;exact of_decide_eq_true hc
   have q1:decide (i<0)=false:=zZ zO;have q2:decide ((D.n:Int)≤i)=false:=zZ zO;have q3:((s.length:Nat):Int)≠256:=zO;refine zE func134 ntmps134 fun R=>?_;refine KJ.row_slice (v:=sv) xS (fun ad c e=>?_);subst e;repeat' (first|refine xqa ?_|refine xsf ?_ ?_|intro _)
   all_goals refine yBW zor rfl (by (repeat' (first|exact Rvs.nil|(apply Rvs.tmp;exact rfl)));first|done|fail) (by rfl) (.slice ad D.n c) (wv) (fun g q=>?_)
   all_goals (show yAH ([yAj p [.slice ad D.n c,wv,.bool D.off,.bool (decide (0≤D.armed)),zi (max D.armed 0),zi D.writes,zi D.flushes,zi D.life] 52,yA4 (.slice ad D.n c) 9 1 D.n (yBy D.img D.n),yA4 (wv) 128 2 D.und.length (yBV D.und)]++R) g;rw [ae];exact (xN) g q)
 by_cases hh:D.has i=true;rotate_left
 ·have hh:D.has i=false:=by simpa using hh
  exact az 6 (by unfold Dsk.writeE;rw [if_neg (by rw [ae];simp),if_neg (by rw [hh];simp)]) (by unfold Dsk.writeD;rw [if_neg (by rw [ae];simp),if_neg (by rw [hh];simp)]) (.inl hh) (by rw [hh];rfl)
 by_cases hs:s.length=256;rotate_left
 ·exact az 7 (by unfold Dsk.writeE;rw [if_neg (by rw [ae];simp),if_pos hh,if_neg hs]) (by unfold Dsk.writeD;rw [if_neg (by rw [ae];simp),if_pos hh,if_neg hs]) (.inr ⟨hh,hs⟩) (by rw [hh];rfl)
 clear az;have jK:0≤i∧i<D.n:=by unfold Dsk.has at hh;exact of_decide_eq_true hh
 have q1:decide (i<0)=false:=zZ zO;have q2:decide ((D.n:Int)≤i)=false:=zZ zO;have q3:((s.length:Nat):Int)=256:=zO;obtain ⟨j,rfl⟩:∃ j:Nat,i=(j:Int):=⟨i.toNat,zO⟩;obtain ⟨D1,aL⟩:∃ D1:Dsk,D1={ D with und:=D.und++[(j,s)] }:=⟨_,rfl⟩;have cg:∀ sv wv,CtU prog W 177 [zPp p] (yCE p D1 (sv,wv)) (.bool D.dead) (yCE p D1.gone (sv,wv)):=fun sv wv=>by subst aL;exact yRn (D:={ D with und:=D.und++[(j,s)] }) ⟨am.arm1,am.arm2⟩ ae sv wv
 have hz:∀ sv wv,yCE p D1 (sv,wv)=[yAj p [sv,wv,.bool false,.bool (decide (0≤D.armed)),zi (max D.armed 0),zi D.writes,zi D.flushes,zi D.life] 52,yA4 (sv) 9 1 D.n (yBy D.img D.n),yA4 (wv) 128 2 (D.und.length+1) (yBV D.und++[zi (j:Nat),strV s])]:=fun sv wv=>by subst aL;simp only [yCE,xAA,ae,zLa,zLj,List.length_nil,ySS]
 have hgw:D1.gone.writes=D.writes:=by rw [Dsk.gone_writes,aL]
 have hgn:D1.gone.n=D.n:=by rw [Dsk.gone_n,aL]
 by_cases hd:D.dead=true
 ·have e1:D.writeE (j:Int) s=12:=by unfold Dsk.writeE;rw [if_neg (by rw [ae];simp),if_pos hh,if_pos hs,if_pos hd]
  have e2:D.writeD (j:Int) s=D1.gone:=by unfold Dsk.writeD;rw [if_neg (by rw [ae];simp),if_pos hh,if_pos hs,if_pos hd,aL,zLe]
  rw [hd] at cg;rw [e1,e2];show Ct _ _ _ _ [yAj p [sv,wv,.bool D.off,.bool (decide (0≤D.armed)),zi (max D.armed 0),zi D.writes,zi D.flushes,zi D.life] 52,yA4 (sv) 9 1 D.n (yBy D.img D.n),yA4 (wv) 128 2 D.und.length (yBV D.und)] _ _;rw [ae];refine zE func134 ntmps134 fun R=>?_;refine KJ.row_slice (v:=sv) xS (fun ad c e=>?_);subst e;refine KJ.row_slice (v:=wv) xS (fun wa wc e=>?_);subst e;simp only [hz] at cg;repeat' (first|refine xca (cg _ _) fun _=>?_|refine yAQ ?_;refine yCN (a2:=0) rfl rfl (by rfl) zO xS (Src.cells (i:=2) xS xC) (by rfl) zO xO zO zO rfl rfl (fun gw cw=>?_)|refine yAD ?_;refine yAK rfl xF (by rfl) zO rfl (fun _=>?_)|refine xqa ?_|refine xsf ?_ ?_|intro _)
  all_goals refine yBW zor rfl (by (repeat' (first|exact Rvs.nil|(apply Rvs.tmp;exact rfl)));first|done|fail) (by rfl) (.slice ad D.n c) (.slice (zq gw) (D.und.length+1) cw) (fun g q=>?_)
  all_goals exact (xN) g q
 ·have hd:D.dead=false:=by simpa using hd
  have e1:D.writeE (j:Int) s=0:=by unfold Dsk.writeE;rw [if_neg (by rw [ae];simp),if_pos hh,if_pos hs,if_neg (by rw [hd];simp)]
  have e2:D.writeD (j:Int) s={ D1.gone with writes:=w64 (D1.gone.writes+1) }:=by unfold Dsk.writeD;rw [if_neg (by rw [ae];simp),if_pos hh,if_pos hs,if_neg (by rw [hd];simp),aL,zLe]
  rw [hd] at cg;rw [e1,e2];obtain ⟨D2,aF⟩:∃ D2,D2=D1.gone:=⟨_,rfl⟩;rw [← aF] at cg hgn ⊢;have cU:IntKind.i64.wrap (D2.writes+1)=w64 (D2.writes+1):=yNj _;clear aF hgw;have eb:∀ sv wv,yCE p D2 (sv,wv)=[yAj p [sv,wv,.bool D2.off,.bool (decide (0≤D2.armed)),zi (max D2.armed 0),zi D2.writes,zi D2.flushes,zi D2.life] 52,yA4 sv 9 1 D2.n (yBy D2.img D2.n),yA4 wv 128 2 D2.und.length (yBV D2.und)]:=fun _ _=>rfl;simp only [eb] at cg;show Ct _ _ _ _ [yAj p [sv,wv,.bool D.off,.bool (decide (0≤D.armed)),zi (max D.armed 0),zi D.writes,zi D.flushes,zi D.life] 52,yA4 (sv) 9 1 D.n (yBy D.img D.n),yA4 (wv) 128 2 D.und.length (yBV D.und)] _ _;rw [ae];refine zE func134 ntmps134 fun R=>?_;refine KJ.row_slice (v:=sv) xS (fun ad c e=>?_);subst e;refine KJ.row_slice (v:=wv) xS (fun wa wc e=>?_);subst e;simp only [hz] at cg;repeat' (first|refine xca (cg _ _) fun _=>?_|refine yAQ ?_;refine yCN (a2:=0) rfl rfl (by rfl) zO xS (Src.cells (i:=2) xS xC) (by rfl) zO xO zO zO rfl rfl (fun gw cw=>?_)|refine yAD ?_;refine yAK rfl xF (by rfl) zO rfl (fun _=>?_)|refine yAr ?_;refine yAa (yQb rfl rfl cU) ?_|refine xqa ?_|refine xsf ?_ ?_|intro _)
  all_goals refine yBW zor rfl (by (repeat' (first|exact Rvs.nil|(apply Rvs.tmp;exact rfl)));first|done|fail) (by rfl) (.slice ad D.n c) (.slice (zq gw) (D.und.length+1) cw) (fun g q=>?_)
  all_goals exact (xN) g q
end
theorem yST (u:List (Nat × zB)) (k j:Nat) (b:zB) (i:Nat) (h:u[k]? = some (j,b)):yG0 (u.take (k+1)) i=if j=i then some b else yG0 (u.take k) i:=by have h1:=(zLc.1 h).1;have h2:u[k]=(j,b):=(zLc.1 h).2;rw [List.take_succ_eq_append_getElem h1,h2,yIy]
theorem yEN {e size:Nat} {H R:List SP}:∀ g,yAH (H++R) g→yAH (H++[yA4 (.slice none 0 0) e size 0 []]++R) g:=by intro g q;have q2:yAH (yA4 (.slice none 0 0) e size 0 []::(H++R)) g:=⟨fun _=>none,g,(fun _ _ q=>by cases q),(fun _ _ q=>by cases q),.rfl,⟨by simp,.inl ⟨rfl,rfl⟩⟩,q⟩;refine yCz ?_ g q2;have:(H++[yA4 (.slice none 0 0) e size 0 []]++R)=H++yA4 (.slice none 0 0) e size 0 []::R:=zW;rw [this];exact List.perm_middle.symm
section
variable {W:World} {p:Nat} {D:Dsk}
theorem yK7 (am:D.ok) (i:Int) (aS:D.und.length<1073741824):CtU prog W 127 [zPp p,zi i] [yA1 p D] (.tuple #[strV (D.readS i),zi (D.readE i)]) [yA1 p D]:=by
 refine yIl (fun sv wv=>?_);have cN:=am.n1;have cO:=am.n2;by_cases ae:D.off=true
 ·have e1:D.readE i=12:=by unfold Dsk.readE;rw [if_pos ae]
  have e2:D.readS i=[]:=by unfold Dsk.readS;rw [if_pos ae]
  rw [e1,e2];show Ct _ _ _ _ [yAj p [sv,wv,.bool D.off,.bool (decide (0≤D.armed)),zi (max D.armed 0),zi D.writes,zi D.flushes,zi D.life] 52,yA4 (sv) 9 1 D.n (yBy D.img D.n),yA4 (wv) 128 2 D.und.length (yBV D.und)] _ _;rw [ae];refine zE func127 ntmps127 fun R=>?_;repeat' (first|refine xst ?_|refine xsf ?_ ?_|intro _)
  all_goals refine yBW zor rfl (by (repeat' (first|exact Rvs.nil|(apply Rvs.tmp;exact rfl)));first|done|fail) (by rfl) (sv) (wv) (fun g q=>?_)
  all_goals (show yAH ([yAj p [sv,wv,.bool D.off,.bool (decide (0≤D.armed)),zi (max D.armed 0),zi D.writes,zi D.flushes,zi D.life] 52,yA4 (sv) 9 1 D.n (yBy D.img D.n),yA4 (wv) 128 2 D.und.length (yBV D.und)]++R) g;rw [ae];exact (xN) g q)
 have ae:D.off=false:=by simpa using ae
 by_cases hh:D.has i=true;rotate_left
 ·have hh:D.has i=false:=by simpa using hh
  have e1:D.readE i=6:=by unfold Dsk.readE;rw [if_neg (by rw [ae];simp),if_neg (by rw [hh];simp)]
  have e2:D.readS i=[]:=by unfold Dsk.readS;rw [if_neg (by rw [ae];simp),if_neg (by rw [hh];simp)]
  rw [e1,e2];have jK:¬ (0≤i∧i<D.n):=by unfold Dsk.has at hh;exact of_decide_eq_false hh
  show Ct _ _ _ _ [yAj p [sv,wv,.bool D.off,.bool (decide (0≤D.armed)),zi (max D.armed 0),zi D.writes,zi D.flushes,zi D.life] 52,yA4 (sv) 9 1 D.n (yBy D.img D.n),yA4 (wv) 128 2 D.und.length (yBV D.und)] _ _;rw [ae];by_cases hi:i<0
  ·have q1:decide (i<0)=true:=zY hi;refine zE func127 ntmps127 fun R=>?_;repeat' (first|refine xqa ?_|refine xsf ?_ ?_|intro _)
   all_goals refine yBW zor rfl (by (repeat' (first|exact Rvs.nil|(apply Rvs.tmp;exact rfl)));first|done|fail) (by rfl) (sv) (wv) (fun g q=>?_)
   all_goals (show yAH ([yAj p [sv,wv,.bool D.off,.bool (decide (0≤D.armed)),zi (max D.armed 0),zi D.writes,zi D.flushes,zi D.life] 52,yA4 (sv) 9 1 D.n (yBy D.img D.n),yA4 (wv) 128 2 D.und.length (yBV D.und)]++R) g;rw [ae];exact (xN) g q)
  ·have q1:decide (i<0)=false:=zZ hi;have q2:decide ((D.n:Int)≤i)=true:=zY zO;refine zE func127 ntmps127 fun R=>?_;refine KJ.row_shape (v:=sv) xS zO (fun gs c e=>?_);subst e;repeat' (first|refine xqa ?_|refine xsf ?_ ?_|intro _)
   all_goals refine yBW zor rfl (by (repeat' (first|exact Rvs.nil|(apply Rvs.tmp;exact rfl)));first|done|fail) (by rfl) (.slice (zq gs) D.n c) (wv) (fun g q=>?_)
   all_goals (show yAH ([yAj p [.slice (zq gs) D.n c,wv,.bool D.off,.bool (decide (0≤D.armed)),zi (max D.armed 0),zi D.writes,zi D.flushes,zi D.life] 52,yA4 (.slice (zq gs) D.n c) 9 1 D.n (yBy D.img D.n),yA4 (wv) 128 2 D.und.length (yBV D.und)]++R) g;rw [ae];exact (xN) g q)
 have jK:0≤i∧i<D.n:=by unfold Dsk.has at hh;exact of_decide_eq_true hh
 have q1:decide (i<0)=false:=zZ zO;have q2:decide ((D.n:Int)≤i)=false:=zZ zO;obtain ⟨j,rfl⟩:∃ j:Nat,i=(j:Int):=⟨i.toNat,zO⟩;have hj:j<D.n:=zO;have e1:D.readE (j:Int)=0:=by unfold Dsk.readE;rw [if_neg (by rw [ae];simp),if_pos hh]
 have e2:D.readS (j:Int)=(yG0 (D.und.take D.und.length) j).getD (D.sec j):=by unfold Dsk.readS;rw [if_neg (by rw [ae];simp),if_pos hh,zLe,List.take_length];rfl
 obtain ⟨A,hA⟩:∃ A:Nat→zB,A=fun k=>(yG0 (D.und.take k) j).getD (D.sec j):=⟨_,rfl⟩;have eK:D.sec j=A 0:=by rw [hA];simp [yHy]
 have jL:(yG0 (D.und.take D.und.length) j).getD (D.sec j)=A D.und.length:=by rw [hA]
 have kC:∀ k i b,D.und[k]? = some (i,b)→A (k+1)=if i=j then b else A k:=fun k i b h=>by rw [hA];show (yG0 (D.und.take (k+1)) j).getD _=_;rw [yST _ _ _ _ _ h];split <;> rfl
 have hS:(yBy D.img D.n)[0+(j:Int).toNat*1]? = some (strV (A 0)):=by rw [zLe,Nat.mul_one,zLq,yGr _ _ _ hj,← eK];rfl
 rw [e1,e2,jL];clear hA jL e1 e2 eK;show Ct _ _ _ _ [yAj p [sv,wv,.bool D.off,.bool (decide (0≤D.armed)),zi (max D.armed 0),zi D.writes,zi D.flushes,zi D.life] 52,yA4 (sv) 9 1 D.n (yBy D.img D.n),yA4 (wv) 128 2 D.und.length (yBV D.und)] _ _;rw [ae];refine zE func127 ntmps127 fun R=>?_;refine KJ.row_shape (v:=sv) xS zO (fun gs c e=>?_);subst e;refine KJ.row_slice (v:=wv) xS (fun wa wc e=>?_);subst e;repeat' (first|refine xqa ?_|refine xsf ?_ ?_|intro _)
 refine yAC (fun i:{k:Nat//k≤D.und.length}=>[(1,zi (j:Nat)),(6,strV (A i.1)),(34,.slice wa D.und.length wc),(35,zi D.und.length),(36,zi (i.1:Nat))]) (fun _=>[yAj p [.slice (zq gs) D.n c,.slice wa D.und.length wc,.bool false,.bool (decide (0≤D.armed)),zi (max D.armed 0),zi D.writes,zi D.flushes,zi D.life] 52,yA4 (.slice (zq gs) D.n c) 9 1 D.n (yBy D.img D.n),yA4 (.slice wa D.und.length wc) 128 2 D.und.length (yBV D.und)]++R) (fun i=>D.und.length-i.1) ⟨0,zO⟩ xB (xN) (fun ⟨k,hk⟩=>?_);dsimp only;by_cases hlt:k<D.und.length
 ·obtain ⟨x,b,hx⟩:∃ x b,D.und[k]? = some (x,b):=⟨(D.und[k]).1,(D.und[k]).2,by rw [zLb hlt]⟩;have ax:=kC k x b hx;have hW:∀ z v,[Value.int .i64 (x:Nat),strV b][z]? = some v→(yBV D.und)[0+(k:Int).toNat*2+z]? = some v:=fun z v hv=>by rw [zLe,zLq];exact yK5 _ _ _ _ hx z v hv
  refine KJ.row_shape (v:=.slice wa D.und.length wc) xS zO (fun gw c' e=>?_);obtain ⟨rfl,rfl⟩:wa=some ⟨gw,0,none⟩∧wc=c':=by cases e;exact ⟨rfl,rfl⟩
  by_cases hxj:x=j
  ·have hq:((x:Nat):Int)=((j:Nat):Int):=by omega
   rw [if_pos hxj] at ax;repeat' (first|refine yAi ?_;refine yAa (yBO rfl xS hW (by rfl)) ?_|refine zad (k+1) ?_|refine xqa ?_|refine xsf ?_ ?_|intro _)
   refine yAs ⟨k+1,zO⟩ (by show D.und.length-(k+1)<D.und.length-k;omega) ?_ (xN);rw [ax];exact xB
  ·have hq:((x:Nat):Int)≠((j:Nat):Int):=by omega
   rw [if_neg hxj] at ax;repeat' (first|refine yAi ?_;refine yAa (yBO rfl xS hW (by rfl)) ?_|refine zad (k+1) ?_|refine xqa ?_|refine xsf ?_ ?_|intro _)
   refine yAs ⟨k+1,zO⟩ (by show D.und.length-(k+1)<D.und.length-k;omega) ?_ (xN);rw [ax];exact xB
 ·have aY:k=D.und.length:=by omega
  subst aY;repeat' (first|refine xst ?_|refine xsf ?_ ?_|intro _)
  all_goals refine yBW zor rfl (by (repeat' (first|exact Rvs.nil|(apply Rvs.tmp;exact rfl)));first|done|fail) (by rfl) (.slice (zq gs) D.n c) (.slice wa D.und.length wc) (fun g q=>?_)
  all_goals (show yAH ([yAj p [.slice (zq gs) D.n c,.slice wa D.und.length wc,.bool D.off,.bool (decide (0≤D.armed)),zi (max D.armed 0),zi D.writes,zi D.flushes,zi D.life] 52,yA4 (.slice (zq gs) D.n c) 9 1 D.n (yBy D.img D.n),yA4 (.slice wa D.und.length wc) 128 2 D.und.length (yBV D.und)]++R) g;rw [ae];exact (xN) g q)
theorem yK8 (am:D.ok) (aS:D.und.length<1073741824):CtU prog W 135 [zPp p] [yA1 p D] (zi D.flushE) [yA1 p D.flushD]:=by
 refine yIl (fun sv wv=>?_);by_cases ae:D.off=true
 ·have e1:D.flushE=12:=by unfold Dsk.flushE;rw [ae];rfl
  have e2:D.flushD=D:=by unfold Dsk.flushD;rw [if_pos ae]
  rw [e1,e2];show Ct _ _ _ _ [yAj p [sv,wv,.bool D.off,.bool (decide (0≤D.armed)),zi (max D.armed 0),zi D.writes,zi D.flushes,zi D.life] 52,yA4 (sv) 9 1 D.n (yBy D.img D.n),yA4 (wv) 128 2 D.und.length (yBV D.und)] _ _;rw [ae];refine zE func135 ntmps135 fun R=>?_;repeat' (first|refine xst ?_|refine xsf ?_ ?_|refine xdr 9 yOD ?_|apply zN|intro _)
  all_goals refine yBW zor rfl (by (repeat' (first|exact Rvs.nil|(apply Rvs.tmp;exact rfl)));first|done|fail) (by rfl) (sv) (wv) (fun g q=>?_)
  all_goals (show yAH ([yAj p [sv,wv,.bool D.off,.bool (decide (0≤D.armed)),zi (max D.armed 0),zi D.writes,zi D.flushes,zi D.life] 52,yA4 (sv) 9 1 D.n (yBy D.img D.n),yA4 (wv) 128 2 D.und.length (yBV D.und)]++R) g;rw [ae];exact (xN) g q)
 have ae:D.off=false:=by simpa using ae
 have cg:CtU prog W 177 [zPp p] (yCE p D (sv,wv)) (.bool D.dead) (yCE p D.gone (sv,wv)):=yRn ⟨am.arm1,am.arm2⟩ ae sv wv;have hz:yCE p D (sv,wv)=[yAj p [sv,wv,.bool false,.bool (decide (0≤D.armed)),zi (max D.armed 0),zi D.writes,zi D.flushes,zi D.life] 52,yA4 (sv) 9 1 D.n (yBy D.img D.n),yA4 (wv) 128 2 D.und.length (yBV D.und)]:=by simp only [yCE,xAA,ae]
 rw [hz] at cg;by_cases hd:D.dead=true
 ·have e1:D.flushE=12:=by unfold Dsk.flushE;rw [ae,hd];rfl
  have e2:D.flushD=D.gone:=by unfold Dsk.flushD;rw [if_neg (by rw [ae];simp),if_pos hd]
  rw [hd] at cg;rw [e1,e2];show Ct _ _ _ _ [yAj p [sv,wv,.bool D.off,.bool (decide (0≤D.armed)),zi (max D.armed 0),zi D.writes,zi D.flushes,zi D.life] 52,yA4 (sv) 9 1 D.n (yBy D.img D.n),yA4 (wv) 128 2 D.und.length (yBV D.und)] _ _;rw [ae];refine zE func135 ntmps135 fun R=>?_;repeat' (first|refine xst ?_|refine xsf ?_ ?_|refine xdr 9 yOD ?_|apply zN|intro _)
  all_goals refine yBW zor rfl (by (repeat' (first|exact Rvs.nil|(apply Rvs.tmp;exact rfl)));first|done|fail) (by rfl) (sv) (wv) (fun g q=>?_)
  all_goals exact (xN) g q
 have hd:D.dead=false:=by simpa using hd
 have e1:D.flushE=0:=by unfold Dsk.flushE;rw [ae,hd];rfl
 have e2:D.flushD={ D.gone with img:=yBD D.img D.und,und:=[],flushes:=w64 (D.flushes+1) }:=by unfold Dsk.flushD;rw [if_neg (by rw [ae];simp),if_neg (by rw [hd];simp)]
 rw [hd] at cg;have cN:=am.n1;have cO:=am.n2;have ai:=am.len;have fh:=am.und;obtain ⟨G,hG⟩:∃ G,G=D.gone:=⟨_,rfl⟩;have g1:G.n=D.n:=by rw [hG,Dsk.gone_n]
 have g2:G.img=D.img:=by rw [hG,Dsk.gone_img]
 have g3:G.und=D.und:=by rw [hG,Dsk.gone_und]
 have g4:G.flushes=D.flushes:=by rw [hG,Dsk.gone_flushes]
 have hzG:yCE p G (sv,wv)=[yAj p [sv,wv,.bool G.off,.bool (decide (0≤G.armed)),zi (max G.armed 0),zi G.writes,zi D.flushes,zi G.life] 52,yA4 (sv) 9 1 D.n (yBy D.img D.n),yA4 (wv) 128 2 D.und.length (yBV D.und)]:=by simp only [yCE,xAA,g1,g2,g3,g4]
 rw [e1,e2];rw [← hG] at cg ⊢;rw [hzG] at cg;have cU:IntKind.i64.wrap (D.flushes+1)=w64 (D.flushes+1):=yNj _;show Ct _ _ _ _ [yAj p [sv,wv,.bool D.off,.bool (decide (0≤D.armed)),zi (max D.armed 0),zi D.writes,zi D.flushes,zi D.life] 52,yA4 (sv) 9 1 D.n (yBy D.img D.n),yA4 (wv) 128 2 D.und.length (yBV D.und)] _ _;rw [ae];refine zE func135 ntmps135 fun R=>?_;refine KJ.row_shape (v:=sv) xS zO (fun gs c e=>?_);subst e;refine KJ.row_slice (v:=wv) xS (fun wa wc e=>?_);subst e;repeat' (first|refine xst ?_|refine xsf ?_ ?_|refine xdr 9 yOD ?_|apply zN|intro _)
 refine yAC (fun i:{k:Nat//k≤D.und.length}=>[(0,zPp p),(16,.slice wa D.und.length wc),(17,zi D.und.length),(18,zi (i.1:Nat))]) (fun i=>[yAj p [.slice (zq gs) D.n c,.slice wa D.und.length wc,.bool G.off,.bool (decide (0≤G.armed)),zi (max G.armed 0),zi G.writes,zi D.flushes,zi G.life] 52,yA4 (.slice (zq gs) D.n c) 9 1 D.n (yBy (yBD D.img (D.und.take i.1)) D.n),yA4 (.slice wa D.und.length wc) 128 2 D.und.length (yBV D.und)]++R) (fun i=>D.und.length-i.1) ⟨0,zO⟩ xB (xN) (fun ⟨k,hk⟩=>?_);dsimp only;have hli:(yBD D.img (D.und.take k)).length=256*D.n:=yD2 _ _ _ ai (fun x hx=>fh x (List.mem_of_mem_take hx));by_cases hlt:k<D.und.length
 ·obtain ⟨x,b,hx⟩:∃ x b,D.und[k]? = some (x,b):=⟨(D.und[k]).1,(D.und[k]).2,by rw [zLb hlt]⟩;have hxb:=fh _ (zLk hx);have hxn:x<D.n:=hxb.1;have hb:b.length=256:=hxb.2;have ax:=yOC (b:=b) hli hxn zO;rw [zLl (by rw [hb,yBY _ _ _ zO];omega),zLs,← yJS _ _ _ _ _ hx] at ax;have kp:lay (yBy (yBD D.img (D.und.take k)) D.n) (0+(x:Int).toNat*1) [strV b]=yBy (yBD D.img (D.und.take (k+1))) D.n:=by rw [zLe,Nat.mul_one,zLq];exact ax
  have hW:∀ z v,[Value.int .i64 (x:Nat),strV b][z]? = some v→(yBV D.und)[0+(k:Int).toNat*2+z]? = some v:=fun z v hv=>by rw [zLe,zLq];exact yK5 _ _ _ _ hx z v hv
  refine KJ.row_shape (v:=.slice wa D.und.length wc) xS zO (fun gw c' e=>?_);obtain ⟨rfl,rfl⟩:wa=some ⟨gw,0,none⟩∧wc=c':=by cases e;exact ⟨rfl,rfl⟩
  repeat' (first|refine yDm ?_;refine yFs rfl rfl xS xF (by rfl) xO (by rw [yBs];simp;omega) ?_|refine yAi ?_;refine yAa (yBO rfl xS hW (by rfl)) ?_|refine zad (k+1) ?_|refine xst ?_|refine xsf ?_ ?_|refine xdr 9 yOD ?_|apply zN|intro _)
  all_goals try rw [kp]
  all_goals refine yAs ⟨k+1,zO⟩ (by show D.und.length-(k+1)<D.und.length-k;omega) xB (xN)
 ·have aY:k=D.und.length:=by omega
  subst aY;rw [List.take_length];repeat' (first|refine yAr ?_;refine yAa (yQb rfl rfl cU) ?_|refine xst ?_|refine xsf ?_ ?_|refine xdr 9 yOD ?_|apply zN|intro _)
  all_goals refine yBW zor rfl (by (repeat' (first|exact Rvs.nil|(apply Rvs.tmp;exact rfl)));first|done|fail) (by rfl) (.slice (zq gs) D.n c) (.slice none 0 0) (fun g q=>?_)
  all_goals (have e9:yCE p ({ G with img:=yBD D.img D.und,und:=[],flushes:=w64 (D.flushes+1) }:Dsk) (.slice (zq gs) D.n c,.slice none 0 0)=[yAj p [.slice (zq gs) D.n c,.slice none 0 0,.bool G.off,.bool (decide (0≤G.armed)),zi (max G.armed 0),zi G.writes,zi (w64 (D.flushes+1)),zi G.life] 52,yA4 (.slice (zq gs) D.n c) 9 1 D.n (yBy (yBD D.img D.und) D.n),yA4 (.slice none 0 0) 128 2 0 []]:=by simp only [yCE,xAA,g1];rfl)
  all_goals rw [e9]
  all_goals refine yEN (H:=[yAj p [.slice (zq gs) D.n c,.slice none 0 0,.bool G.off,.bool (decide (0≤G.armed)),zi (max G.armed 0),zi G.writes,zi (w64 (D.flushes+1)),zi G.life] 52,yA4 (.slice (zq gs) D.n c) 9 1 D.n (yBy (yBD D.img D.und) D.n)]) g ((xN) g q)
end
theorem xAC (kept:List Bool) (torn bytes:Int) (k:Nat):done kept torn bytes k≤256:=by
 unfold done;split
 ·omega
 ·split <;> omega
end Go.Proofs.YtoipmnikdiogcaaGreatDoor
