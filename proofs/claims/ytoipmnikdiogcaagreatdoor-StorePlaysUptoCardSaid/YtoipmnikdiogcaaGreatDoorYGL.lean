/-
  Rdk4, AreR, Rdk5, PoP, PoW4.
-/
import Derived.Test.YtoipmnikdiogcaaGreatDoorYGG
set_option maxRecDepth 100000
set_option maxHeartbeats 64000000
namespace Go.Proofs.YtoipmnikdiogcaaGreatDoor
open Go Go.RowKit
open Go.Proofs.Tryz
abbrev yIm:Pl:=(po [0,1,2,3,4,5,6,7,8,9,10,11,12,13,14,15,16,17,18,19,20,21] (.ef 22 [] .nil))
abbrev yVH:Pl:=(po [0,1,2,3,4] (.ef 5 [4,3,2,1,0] (.op 6 (.ef 7 [4,3,2,1,0] (.ef 8 [0] (.op 9 (.op 10 (.ef 11 [] .nil))))))))
section
variable {P:Program} {W:World} {n b off:Nat} {T t:TypeId} {E:Env} {H R:List SP} {x:Operand}
theorem yIn {cs:List Value} {v v':Value} (hx:Env.ev E x=some (.pointer (some ⟨b,off,none⟩))) [hu:ScIs P t] (hs:Sel (yAj b cs T) H R) (hv:cs[off]? = some v) (h:v=v'):Ev P W n E H (.load t x) v':=by subst h;exact yDC hx hs hv
end
section
variable {W:World} {p:Nat} {D:Dsk}
theorem yVI (am:D.ok) (aS:D.und.length<1073741824) {kv:Value} {kept:List Bool} (torn bytes:Int) (hk:BoolsAt W kv kept):CtU prog W 30 [zPp p,.agg #[kv,zi torn,zi bytes]] [yA1 p D] (.tuple #[]) [yA1 p (D.crash kept torn bytes)]:=by
 refine yIl (fun sv wv=>?_);obtain ⟨ka,kc,rfl,hkr,-⟩:=hk;have cN:=am.n1;have cO:=am.n2;have ai:=am.len;have fh:=am.und;have cU:IntKind.i64.wrap (D.life+1)=w64 (D.life+1):=yNj _;show Ct _ _ _ _ [yAj p [sv,wv,.bool D.off,.bool (decide (0≤D.armed)),zi (max D.armed 0),zi D.writes,zi D.flushes,zi D.life] 52,yA4 (sv) 9 1 D.n (yBy D.img D.n),yA4 (wv) 128 2 D.und.length (yBV D.und)] _ _;refine zE func30 ntmps30 fun R=>?_;refine KJ.row_shape (v:=sv) xS zO (fun gs c e=>?_);subst e;refine KJ.row_slice (v:=wv) xS (fun wa wc e=>?_);subst e;repeat' (first|refine zbx fun gF=>?_|refine xst ?_|refine xsf ?_ ?_|refine xdr 9 yIm ?_|apply zN|intro _)
 refine yAC (fun i:{k:Nat//k≤D.und.length}=>[(0,zPp p),(3,zPp gF),(10,.slice wa D.und.length wc),(11,zi D.und.length),(12,zi (i.1:Nat))]) (fun i=>[yAj gF [.slice ka kept.length kc,zi torn,zi bytes] 41]++[yAj p [.slice (zq gs) D.n c,.slice wa D.und.length wc,.bool D.off,.bool (decide (0≤D.armed)),zi (max D.armed 0),zi D.writes,zi D.flushes,zi D.life] 52,yA4 (.slice (zq gs) D.n c) 9 1 D.n (yBy (yB7 D.img kept torn bytes (D.und.take i.1)) D.n),yA4 (.slice wa D.und.length wc) 128 2 D.und.length (yBV D.und)]++R) (fun i=>D.und.length-i.1) ⟨0,zO⟩ xB (xN) (fun ⟨k,dv⟩=>?_);dsimp only;have hli:(yB7 D.img kept torn bytes (D.und.take k)).length=256*D.n:=yDI _ _ _ _ _ _ ai (fun x hx=>fh x (List.mem_of_mem_take hx));by_cases hlt:k<D.und.length
 ·obtain ⟨x,b,hx⟩:∃ x b,D.und[k]? = some (x,b):=⟨(D.und[k]).1,(D.und[k]).2,by rw [zLb hlt]⟩;have hxb:=fh _ (zLk hx);have hxn:x<D.n:=hxb.1;have hb:b.length=256:=hxb.2;have hd256:=xAC kept torn bytes k;have fY:done kept torn bytes k=if (k:Int)=torn then (min (max bytes 0) 256).toNat else if kept.getD k false then 256 else 0:=rfl
  have hsnx:=yDN D.img kept torn bytes D.und k x b hx;obtain ⟨d,hd⟩:∃ d,d=done kept torn bytes k:=⟨_,rfl⟩;rw [← hd] at hd256 fY hsnx;have ax:=yOC (b:=b.take d) hli hxn (by rw [zLg];omega);rw [← hsnx,zLg,Nat.min_eq_left zO] at ax;obtain ⟨I,hI⟩:∃ I,I=yB7 D.img kept torn bytes (D.und.take k):=⟨_,rfl⟩;rw [← hI] at ax hli ⊢;have kp:lay (yBy I D.n) (0+(x:Int).toNat*1) [strV (b.take ((d:Nat):Int).toNat++(cut I (x*256) 256).drop ((d:Nat):Int).toNat)]=yBy (yB7 D.img kept torn bytes (D.und.take (k+1))) D.n:=by rw [zLe,zLe,Nat.mul_one,zLq];exact ax
  have dS:(cut I (x*256) 256).length=256:=yBY _ _ _ zO;have hS:(yBy I D.n)[0+(x:Int).toNat*1]? = some (strV (cut I (x*256) 256)):=by rw [zLe,Nat.mul_one,zLq,yGr _ _ _ hxn]
  have hW:∀ z v,[Value.int .i64 (x:Nat),strV b][z]? = some v→(yBV D.und)[0+(k:Int).toNat*2+z]? = some v:=fun z v hv=>by rw [zLe,zLq];exact yK5 _ _ _ _ hx z v hv
  refine KJ.row_shape (v:=.slice wa D.und.length wc) xS zO (fun gw c' e=>?_);obtain ⟨rfl,rfl⟩:wa=some ⟨gw,0,none⟩∧wc=c':=by cases e;exact ⟨rfl,rfl⟩
  apply yHm (fun K=>∀ g5:Nat,KJ W 79 K [(0,zPp p),(3,zPp gF),(10,.slice (zq gw) D.und.length wc),(11,zi D.und.length),(5,zPp g5),(6,zi (d:Nat)),(12,zi (k:Nat))] ([yAj gF [.slice ka kept.length kc,zi torn,zi bytes] 41,yAj g5 [zi (x:Nat),strV b] 128]++[yAj p [.slice (zq gs) D.n c,.slice (zq gw) D.und.length wc,.bool D.off,.bool (decide (0≤D.armed)),zi (max D.armed 0),zi D.writes,zi D.flushes,zi D.life] 52,yA4 (.slice (zq gs) D.n c) 9 1 D.n (yBy I D.n),yA4 (.slice (zq gw) D.und.length wc) 128 2 D.und.length (yBV D.und)]++R))
  ·intro rest;by_cases aY:k<kept.length
   ·have ql:decide ((k:Int)<(kept.length:Nat))=true:=zY zO;obtain ⟨z,hz⟩:∃ z,kept[k]? = some z:=⟨_,zLb aY⟩;have bE:kept.getD k false=z:=by rw [List.getD,hz];rfl
    rw [bE] at fY;obtain ⟨kb,ko,hka,hkb,hkc⟩:=hkr (by intro e;rw [e] at aY;simp at aY);have dY:Value.slice ka kept.length kc=.slice (some ⟨kb,ko,none⟩) kept.length kc:=by rw [hka]
    have Hk:W.cell? ⟨kb,ko+(k:Int).toNat*1,none⟩=some (.bool z):=by rw [zLe,Nat.mul_one];exact hkc k _ (by simp [hz])
    by_cases ht:(k:Int)=torn
    ·rw [if_pos ht] at fY;have dO:min (max bytes 0) 256=((d:Nat):Int):=zO;cases z with
     |false=>repeat' (first|refine yEo (id:=9) ?_;exact KJ.weak (rest _) xB (xN)|(refine yAi ?_;first|refine yAa (yIn rfl xS (by rfl) dY) ?_|refine yAa (yBO rfl xS hW (by rfl)) ?_)|refine yDg ?_;refine yAa (yQa rfl rfl dO) ?_|refine xqa ?_|refine xsf ?_ ?_|refine xdr 9 yIm ?_|apply zN|intro _)
     |true=>repeat' (first|refine yEo (id:=9) ?_;exact KJ.weak (rest _) xB (xN)|(refine yAi ?_;first|refine yAa (yIn rfl xS (by rfl) dY) ?_|refine yAa (yBO rfl xS hW (by rfl)) ?_)|refine yDg ?_;refine yAa (yQa rfl rfl dO) ?_|refine xqa ?_|refine xsf ?_ ?_|refine xdr 9 yIm ?_|apply zN|intro _)
    ·rw [if_neg ht] at fY;cases z with
     |false=>
      have fU:d=0:=fY;subst fU;repeat' (first|refine yEo (id:=9) ?_;exact KJ.weak (rest _) xB (xN)|(refine yAi ?_;first|refine yAa (yIn rfl xS (by rfl) dY) ?_|refine yAa (yBO rfl xS hW (by rfl)) ?_)|refine xqa ?_|refine xsf ?_ ?_|refine xdr 9 yIm ?_|apply zN|intro _)
     |true=>
      have fU:d=256:=fY;subst fU;repeat' (first|refine yEo (id:=9) ?_;exact KJ.weak (rest _) xB (xN)|(refine yAi ?_;first|refine yAa (yIn rfl xS (by rfl) dY) ?_|refine yAa (yBO rfl xS hW (by rfl)) ?_)|refine xqa ?_|refine xsf ?_ ?_|refine xdr 9 yIm ?_|apply zN|intro _)
   ·have ql:decide ((k:Int)<(kept.length:Nat))=false:=zZ zO;have bE:kept.getD k false=false:=by rw [List.getD,List.getElem?_eq_none zO];rfl
    rw [bE] at fY;by_cases ht:(k:Int)=torn
    ·rw [if_pos ht] at fY;have dO:min (max bytes 0) 256=((d:Nat):Int):=zO;repeat' (first|refine yEo (id:=9) ?_;exact KJ.weak (rest _) xB (xN)|refine yAi ?_;refine yAa (yBO rfl xS hW (by rfl)) ?_|refine yDg ?_;refine yAa (yQa rfl rfl dO) ?_|refine xqa ?_|refine xsf ?_ ?_|refine xdr 9 yIm ?_|apply zN|intro _)
    ·rw [if_neg ht] at fY;have fU:d=0:=fY;subst fU;repeat' (first|refine yEo (id:=9) ?_;exact KJ.weak (rest _) xB (xN)|refine yAi ?_;refine yAa (yBO rfl xS hW (by rfl)) ?_|refine xqa ?_|refine xsf ?_ ?_|refine xdr 9 yIm ?_|apply zN|intro _)
  intro g5;repeat' (first|refine yDm ?_;refine yFs rfl rfl xS xF (by rfl) xO (by rw [yBs];simp;omega) ?_|(refine yBb ?_;first|refine yAa (yB0 rfl rfl zO) ?_|refine yAa (yFn rfl rfl zO) ?_)|refine yAr ?_;refine yAa (yFk rfl rfl (by simp only [zLg,zLf];omega)) ?_|refine zad (k+1) ?_|refine xqa ?_|refine xsf ?_ ?_|refine xdr 9 yIm ?_|apply zN|intro _)
  all_goals try rw [kp]
  all_goals refine yAs ⟨k+1,zO⟩ (by show D.und.length-(k+1)<D.und.length-k;omega) xB (xN)
 ·have aY:k=D.und.length:=by omega
  subst aY;rw [List.take_length];repeat' (first|refine yAr ?_;refine yAa (yQb rfl rfl cU) ?_|refine xst ?_|refine xsf ?_ ?_|refine xdr 9 yIm ?_|apply zN|intro _)
  all_goals refine yBW zor rfl (by (repeat' (first|exact Rvs.nil|(apply Rvs.tmp;exact rfl)));first|done|fail) (by rfl) (.slice (zq gs) D.n c) (.slice none 0 0) (fun g q=>?_)
  all_goals (have e9:yCE p (D.crash kept torn bytes) (.slice (zq gs) D.n c,.slice none 0 0)=[yAj p [.slice (zq gs) D.n c,.slice none 0 0,.bool false,.bool false,zi 0,zi D.writes,zi D.flushes,zi (w64 (D.life+1))] 52,yA4 (.slice (zq gs) D.n c) 9 1 D.n (yBy (yB7 D.img kept torn bytes D.und) D.n),yA4 (.slice none 0 0) 128 2 0 []]:=by rfl)
  all_goals rw [e9]
  all_goals refine yEN (H:=[yAj p [.slice (zq gs) D.n c,.slice none 0 0,.bool false,.bool false,zi 0,zi D.writes,zi D.flushes,zi (w64 (D.life+1))] 52,yA4 (.slice (zq gs) D.n c) 9 1 D.n (yBy (yB7 D.img kept torn bytes D.und) D.n)]) g ((xN) g q)
end
section
variable {P:Program} {W:World} {n:Nat} {E:Env} {H R:List SP} {x y z:Operand} {t:TypeId} {p off:Nat} {D:Dsk} {k:KK}
theorem yFb {v:Value} (hx:Env.ev E x=some (.pointer (some ⟨p,off,none⟩))) [hu:ScIs P t] (hs:Sel (yA1 p D) H R) (hv:∀ sv wv:Value,[sv,wv,.bool D.off,.bool (decide (0≤D.armed)),zi (max D.armed 0),zi D.writes,zi D.flushes,zi D.life][off]? = some v):Ev P W n E H (.load t x) v:=
 Ev.mk fun o ho a w q s=>by
  obtain ⟨⟨sv,wv⟩,s2⟩:=(s.perm hs.perm).unpack;have s3:St W (yAj p [sv,wv,.bool D.off,.bool (decide (0≤D.armed)),zi (max D.armed 0),zi D.writes,zi D.flushes,zi D.life] 52::(yA4 sv 9 1 D.n (yBy D.img D.n)::yA4 wv 128 2 D.und.length (yBV D.und)::R)) w:=s2;have hc:w.cell? ⟨p,off,none⟩=some v:=by rw [(s3.blk .here).2.cell];exact hv sv wv
  obtain ⟨d,hu,hd⟩:=hu.h;simp [execOp,ho,q.ev hx,yCg w hc hu hd,Result.andThen]
theorem yIo {l r:zB} {i j:Int} {ki kj:IntKind} (hx:Env.ev E x=some (strV l)) (hy:Env.ev E y=some (.int ki i)) (hz:Env.ev E z=some (.int kj j)) [hu:UIs P t .string] (hb:0≤i∧i≤j∧j≤l.length) (h:(l.take j.toNat).drop i.toNat=r):Ev P W n E H (.slice t x (some y) (some z) none) (strV r):=by subst h;exact yFm hx hy hz hb
end
theorem xAD (at_ aa:Int):∀ (f:Nat) (D:Dsk) (i:Int) (v:zB),D.off=true→yDv at_ aa f D i v=(12,D):=by
 intro f D i v h;have h1:D.flushE=12:=by simp [Dsk.flushE,h]
 have h2:D.flushD=D:=by simp [Dsk.flushD,h]
 have h3:∀ j s,D.writeE j s=12:=fun j s=>by simp [Dsk.writeE,h]
 have h4:∀ j s,D.writeD j s=D:=fun j s=>by simp [Dsk.writeD,h]
 cases f with
 |zero=>simp [yDv,h1,h2]
 |succ f=>
  by_cases hv:v=[]
  ·simp [yDv,hv,h1,h2]
  ·simp [yDv,hv,h3,h4]
section
variable {W:World} {E:Nat→Addr} {p:Nat} {D:Dsk}
theorem yL2 (at_ n aa:Int) (hn:D.n≤65536):CtU prog W 174 [zPp p,zi at_,zi n,.int .u64 aa] [yA1 p D] (.bool (D.mayB at_ n && decide (aa≠0))) [yA1 p D]:=by
 have c1:=yX0 (W:=W) (p:=p) (D:=D);obtain ⟨q,hq⟩:∃ q,q=(D.mayB at_ n && decide (aa≠0)):=⟨_,rfl⟩;rw [← hq];by_cases h1:0≤at_;rotate_left
 ·have q1:decide (0≤at_)=false:=zZ h1;have hr:q=false:=by rw [hq];unfold Dsk.mayB;simp [h1]
  rw [hr];refine zE func174 ntmps174 fun R=>?_;repeat' (first|refine xqa ?_|refine xsf ?_ ?_|exact xdn ()|intro _)
 have q1:decide (0≤at_)=true:=zY h1;by_cases h2:0≤n;rotate_left
 ·have q2:decide (0≤n)=false:=zZ h2;have hr:q=false:=by rw [hq];unfold Dsk.mayB;simp [h2]
  rw [hr];refine zE func174 ntmps174 fun R=>?_;repeat' (first|refine xqa ?_|refine xsf ?_ ?_|exact xdn ()|intro _)
 have q2:decide (0≤n)=true:=zY h2;by_cases h3:at_≤D.n;rotate_left
 ·have q3:decide (at_≤(D.n:Int))=false:=zZ h3;have hr:q=false:=by rw [hq];unfold Dsk.mayB;simp [h3]
  rw [hr];refine zE func174 ntmps174 fun R=>?_;repeat' (first|refine xqa ?_|refine xsf ?_ ?_|exact xdn ()|intro _)
 have q3:decide (at_≤(D.n:Int))=true:=zY h3;by_cases h4:n≤(D.n:Int)-at_;rotate_left
 ·have q4:decide (n≤(D.n:Int)-at_)=false:=zZ h4;have hr:q=false:=by rw [hq];unfold Dsk.mayB;simp [h4]
  rw [hr];refine zE func174 ntmps174 fun R=>?_;repeat' (first|refine xqa ?_|refine xsf ?_ ?_|exact xdn ()|intro _)
 have q4:decide (n≤(D.n:Int)-at_)=true:=zY h4;have hm:D.mayB at_ n=true:=by unfold Dsk.mayB;simp [h1,h2,h3,h4]
 by_cases h5:aa=0
 ·have hr:q=false:=by rw [hq,hm];simp [h5]
  rw [hr];refine zE func174 ntmps174 fun R=>?_;repeat' (first|refine xqa ?_|refine xsf ?_ ?_|exact xdn ()|intro _)
 ·have hr:q=true:=by rw [hq,hm];simp [h5]
  rw [hr];refine zE func174 ntmps174 fun R=>?_;repeat' (first|refine xqa ?_|refine xsf ?_ ?_|exact xdn ()|intro _)
theorem ySU (am:D.ok) (aS:D.und.length+65536<1073741823) (at_ n:Int) (st:Nat) (aj:st<2 ^ 64) (v:zB):CtU prog W 131 [zPp p,zi at_,zi n,.int .u64 (st:Nat),strV v] [yA1 p D] (zi ((yBF D at_ n st v).1:Nat)) [yA1 p (yBF D at_ n st v).2]:=by
 have hn:=am.n2;have c1:=yL2 (W:=W) (p:=p) at_ n (st:Nat) hn;by_cases hp:(D.mayB at_ n && decide ((st:Int)≠0))=false
 ·have e:yBF D at_ n st v=(6,D):=by
   unfold yBF;by_cases h1:D.mayB at_ n=false
   ·rw [if_pos h1]
   ·rw [if_neg h1,if_pos (by simp at h1;rw [h1] at hp;simpa using hp)]
  rw [e];rw [hp] at c1;refine zE func131 ntmps131 fun R=>?_;repeat' (first|refine xst ?_|refine xsf ?_ ?_|exact xdn ()|intro _)
 have hp:(D.mayB at_ n && decide ((st:Int)≠0))=true:=by simpa using hp
 rw [hp] at c1;have h1:D.mayB at_ n=true:=by rw [zLw] at hp;exact hp.1
 have h2:st≠0:=by rw [zLw] at hp;have:=of_decide_eq_true hp.2;omega
 have c2:=yNZ (W:=W) n;by_cases h3:yCI n<(v.length:Int)
 ·have e:yBF D at_ n st v=(3,D):=by unfold yBF;rw [if_neg (by rw [h1];simp),if_neg zO,if_pos h3]
  rw [e];have q3:decide (yCI n<(v.length:Int))=true:=zY h3;refine zE func131 ntmps131 fun R=>?_;repeat' (first|refine xqa ?_|refine xsf ?_ ?_|exact xdn ()|intro _)
 have q3:decide (yCI n<(v.length:Int))=false:=zZ h3;have hW:yBF D at_ n st v=yDv at_ st v.length D ((0:Nat):Int) (v.drop (234*0)):=by
  unfold yBF;rw [if_neg (by rw [h1];simp),if_neg zO,if_neg h3];by_cases h4:D.off=true
  ·rw [if_pos h4,xAD _ _ _ _ _ _ h4]
  ·rw [if_neg h4];rfl
 rw [hW];obtain ⟨aB,au⟩:∃ aB,aB=yDv at_ st v.length D ((0:Nat):Int) (v.drop (234*0)):=⟨_,rfl⟩;rw [← au];have cJ:0≤at_∧at_≤65536:=by unfold Dsk.mayB at h1;have:=of_decide_eq_true h1;omega
 have hvl:v.length≤234*65536:=by unfold yCI at h3;omega
 clear hW;refine zE func131 ntmps131 fun R=>?_;repeat' (first|refine xqa ?_|refine xsf ?_ ?_|intro _)
 refine yAC (fun i:{s:Nat × Nat × Dsk//yDv at_ st s.2.1 s.2.2 (s.1:Nat) (v.drop (234*s.1))=aB∧s.2.2.ok∧s.2.2.und.length≤D.und.length+s.1∧v.length≤234*(s.1+s.2.1)∧s.1≤65536}=>
  [(0,zPp p),(1,zi at_),(3,.int .u64 (st:Nat)),(4,strV v),(12,zi (i.1.1:Nat))]) (fun i=>[yA1 p i.1.2.2]++R) (fun i=>i.1.2.1) ⟨(0,v.length,D),au.symm,am,by dsimp only;omega,by dsimp only;omega,by dsimp only;omega⟩ xB (xN) (fun ⟨(k,f,Dk),hr,dv,hu,hf,hk⟩=>?_)
 dsimp only at hr dv hu hf hk ⊢;by_cases hlt:234*k<v.length;rotate_left
 ·have dH:v.drop (234*k)=[]:=zLl zO;rw [dH,yJA] at hr;have ql:decide ((k:Int)*234<(v.length:Int))=false:=zZ zO;have aF:aB.2=Dk.flushD:=by rw [← hr]
  have dB:aB.1=Dk.flushE:=by rw [← hr]
  rw [aF,dB];have c4:=yK8 (W:=W) (p:=p) dv zO;repeat' (first|refine xqa ?_|refine xsf ?_ ?_|exact xdn ()|intro _)
 have ql:decide ((k:Int)*234<(v.length:Int))=true:=zY zO;obtain ⟨f',rfl⟩:∃ f',f=f'+1:=⟨f-1,zO⟩;have ao:v.drop (234*k)≠[]:=by intro q;have:=congrArg List.length q;rw [zLf] at this;simp at this;omega
 obtain ⟨pc,cK⟩:∃ pc,pc=(v.drop (234*k)).take 234:=⟨_,rfl⟩
 have aG:yDv at_ st (f'+1) Dk (k:Nat) (v.drop (234*k))=if Dk.writeE (at_+(k:Nat)) (yAF st pc)≠0 then (Dk.writeE (at_+(k:Nat)) (yAF st pc),Dk.writeD (at_+(k:Nat)) (yAF st pc))
  else yDv at_ st f' (Dk.writeD (at_+(k:Nat)) (yAF st pc)) ((k+1:Nat):Int) (v.drop (234*(k+1))):=by
  show (if v.drop (234*k)=[] then _ else _)=_;rw [if_neg ao,← cK,List.drop_drop,show 234*k+234=234*(k+1) by omega];rfl
 rw [aG] at hr;clear aG;obtain ⟨hi,hhi⟩:∃ hi:Nat,hi=min ((k+1)*234) v.length:=⟨_,rfl⟩;have dO:min (((k:Int)+1)*234) (v.length:Int)=(hi:Nat):=zO;have hslc:(v.take ((hi:Nat):Int).toNat).drop ((k:Int)*234).toNat=pc:=by rw [zLe,show ((k:Int)*234).toNat=234*k by omega,cK,List.drop_take,hhi];apply List.take_eq_take_iff.2;rw [zLf];omega
 have bk:pc.length≤234:=by rw [cK,zLg];omega
 have c5:=yJI (W:=W) st h2 aj pc bk;have c6:=yK6 (W:=W) (p:=p) dv (at_+(k:Nat)) (yAF st pc) zO;have iN:=yDE Dk (at_+(k:Nat)) (yAF st pc);have ez:=Dsk.writeD_ok dv (at_+(k:Nat)) (yAF st pc);obtain ⟨D1,aL⟩:∃ D1,D1=Dk.writeD (at_+(k:Nat)) (yAF st pc):=⟨_,rfl⟩;obtain ⟨e,he⟩:∃ e,e=Dk.writeE (at_+(k:Nat)) (yAF st pc):=⟨_,rfl⟩;obtain ⟨raw,aV⟩:∃ raw,raw=yAF st pc:=⟨_,rfl⟩;rw [← aL] at c6 hr iN ez;rw [← he] at c6 hr;rw [← aV] at c5 c6;clear cK aL he aV au;have hbk:0≤(k:Int)∧(k:Int)≤65535:=zO;by_cases hz:e=0
 ·rw [if_neg (by simpa using hz)] at hr;repeat' (first|refine yBb ?_;refine yAa (yIo rfl rfl rfl zO hslc) ?_|refine yAo ?_;refine yAa (yAz rfl rfl zO) ?_|refine xqa ?_|refine xsf ?_ ?_|intro _)
  all_goals exact yAs ⟨(k+1,f',D1),hr,ez,by dsimp only;omega,by dsimp only;omega,by dsimp only;omega⟩ (by show f'<f'+1;omega) xB (xN)
 ·rw [if_pos hz] at hr;have aF:aB.2=D1:=by rw [← hr]
  have dB:aB.1=e:=by rw [← hr]
  rw [aF,dB];repeat' (first|refine yBb ?_;refine yAa (yIo rfl rfl rfl zO hslc) ?_|refine yAo ?_;refine yAa (yBe rfl rfl zO) ?_|refine xqa ?_|refine xsf ?_ ?_|exact xdn ()|intro _)
theorem yGs (am:D.ok) (aS:D.und.length<1073741824) (at_ n:Int) (st:Nat) (aj:st<2 ^ 64) (bytes:Int):CtU prog W 179 [zPp p,zi at_,zi n,.int .u64 (st:Nat),zi bytes] [yA1 p D] (.tuple #[strV (yCd D at_ n st bytes).1,zi ((yCd D at_ n st bytes).2:Nat)]) [yA1 p D]:=by
 have hn:=am.n2;have c1:=yL2 (W:=W) (p:=p) at_ n (st:Nat) hn;by_cases hp:(D.mayB at_ n && decide ((st:Int)≠0))=false
 ·have e:yCd D at_ n st bytes=([],6):=by
   unfold yCd;by_cases h1:D.mayB at_ n=false
   ·rw [if_pos h1]
   ·rw [if_neg h1,if_pos (by simp at h1;rw [h1] at hp;simpa using hp)]
  rw [e];rw [hp] at c1;refine zE func179 ntmps179 fun R=>?_;repeat' (first|refine xst ?_|refine xsf ?_ ?_|exact xdn ()|intro _)
 have hp:(D.mayB at_ n && decide ((st:Int)≠0))=true:=by simpa using hp
 rw [hp] at c1;have h1:D.mayB at_ n=true:=by rw [zLw] at hp;exact hp.1
 have h2:st≠0:=by rw [zLw] at hp;have:=of_decide_eq_true hp.2;omega
 by_cases hb:bytes<0
 ·have e:yCd D at_ n st bytes=([],6):=by unfold yCd;rw [if_neg (by rw [h1];simp),if_neg zO,if_pos hb]
  rw [e];have qb:decide (bytes<0)=true:=zY hb;refine zE func179 ntmps179 fun R=>?_;repeat' (first|refine xqa ?_|refine xsf ?_ ?_|exact xdn ()|intro _)
 have qb:decide (bytes<0)=false:=zZ hb;have c2:=yNZ (W:=W) n;by_cases h3:yCI n<bytes
 ·have e:yCd D at_ n st bytes=([],3):=by unfold yCd;rw [if_neg (by rw [h1];simp),if_neg zO,if_neg hb,if_pos h3]
  rw [e];have q3:decide (yCI n<bytes)=true:=zY h3;refine zE func179 ntmps179 fun R=>?_;repeat' (first|refine xqa ?_|refine xsf ?_ ?_|exact xdn ()|intro _)
 have q3:decide (yCI n<bytes)=false:=zZ h3;rcases Bool.eq_false_or_eq_true D.off with h4|h4
 ·have e:yCd D at_ n st bytes=([],12):=by unfold yCd;rw [if_neg (by rw [h1];simp),if_neg zO,if_neg hb,if_neg h3,if_pos h4]
  rw [e];have ae:∀ sv wv:Value,[sv,wv,.bool D.off,.bool (decide (0≤D.armed)),zi (max D.armed 0),zi D.writes,zi D.flushes,zi D.life][0+2]? = some (Value.bool true):=fun sv wv=>by rw [h4];rfl
  refine zE func179 ntmps179 fun R=>?_;repeat' (first|refine yAi ?_;refine yAa (yFb rfl xS ae) ?_|refine xqa ?_|refine xsf ?_ ?_|exact xdn ()|intro _)
 have ae:∀ sv wv:Value,[sv,wv,.bool D.off,.bool (decide (0≤D.armed)),zi (max D.armed 0),zi D.writes,zi D.flushes,zi D.life][0+2]? = some (Value.bool false):=fun sv wv=>by rw [h4];rfl
 obtain ⟨S,hS⟩:∃ S,S=(yCm bytes).toNat:=⟨_,rfl⟩;have hR:yCd D at_ n st bytes=yMO D at_ st bytes S 0 []:=by rw [hS];unfold yCd;rw [if_neg (by rw [h1];simp),if_neg zO,if_neg hb,if_neg h3,if_neg (by rw [h4];simp)]
 rw [hR];have hbr:bytes≤234*65536:=by unfold yCI at h3;omega
 have hSI:S=(bytes.toNat+233) / 234:=by rw [hS];unfold yCm;split <;> omega
 obtain ⟨aB,au⟩:∃ aB,aB=yMO D at_ st bytes S 0 []:=⟨_,rfl⟩;rw [← au];obtain ⟨cJ,hatn,hn0⟩:(0≤at_∧at_≤65536)∧n≤(D.n:Int)-at_∧0≤n:=by unfold Dsk.mayB at h1;have:=of_decide_eq_true h1;omega
 have hbn:bytes≤234*n:=by unfold yCI at h3;omega
 clear hR hS;refine zE func179 ntmps179 fun R=>?_;repeat' (first|refine yAD ?_;refine yCC rfl (fun g0=>?_)|refine yAi ?_;refine yAa (yFb rfl xS ae) ?_|refine xqa ?_|refine xsf ?_ ?_|intro _)
 refine yAC (fun i:{s:Nat × zB × Nat × Nat//yMO D at_ st bytes (S-s.1) s.1 s.2.1=aB∧s.1≤S∧(s.2.1.length:Int)=min (234*(s.1:Int)) bytes}=>
  [(0,zPp p),(1,zi at_),(3,.int .u64 (st:Nat)),(4,zi bytes),(13,.slice (some ⟨i.1.2.2.1,0,none⟩) i.1.2.1.length i.1.2.2.2),(14,zi (i.1.1:Nat))])
  (fun i=>[yA1 p D,yA4 (.slice (some ⟨i.1.2.2.1,0,none⟩) i.1.2.1.length i.1.2.2.2) 5 1 i.1.2.1.length (bvs i.1.2.1)]++R) (fun i=>S-i.1.1) ⟨(0,[],g0,0),au.symm,by dsimp only;omega,by dsimp only [List.length];omega⟩ xB (xN) (fun ⟨(i,an,g,c),hr,hi,bF⟩=>?_)
 dsimp only at hr hi bF ⊢;by_cases hlt:i<S;rotate_left
 ·have hiS:i=S:=by omega
  subst hiS;rw [Nat.sub_self] at hr;have ql:decide ((an.length:Int)<bytes)=false:=zZ zO;have dB:aB.2=0:=by rw [← hr];rfl
  have f8:aB.1=an:=by rw [← hr];rfl
  rw [dB,f8];repeat' (first|refine yAu ?_;refine yAa (yFr rfl xS) ?_|refine xqa ?_|refine xsf ?_ ?_|exact xdn ()|intro _)
 have ql:decide ((an.length:Int)<bytes)=true:=zY zO;obtain ⟨f,hf⟩:∃ f,S-i=f+1:=⟨S-i-1,zO⟩;have dW:S-(i+1)=f:=zO;rw [hf] at hr;have aQ:D.has (at_+(i:Nat))=true:=by unfold Dsk.has;exact zY zO
 have hE0:D.readE (at_+(i:Nat))=0:=by unfold Dsk.readE;rw [h4,aQ];rfl
 have aG:yMO D at_ st bytes (f+1) i an=if D.readE (at_+(i:Nat))≠0 then ([],D.readE (at_+(i:Nat))) else
  match yCq st (D.readS (at_+(i:Nat))) with
  |none=>([],15)
  |some pc=>if (pc.length:Int)≠min (bytes-i*234) 234 then ([],15) else yMO D at_ st bytes f (i+1) (an++pc):=rfl
 rw [aG,if_neg (by rw [hE0];simp)] at hr;clear aG;have c6:=yK7 (W:=W) (p:=p) am (at_+(i:Nat)) aS;rw [hE0] at c6;have c7:=yNi (W:=W) st aj (D.readS (at_+(i:Nat)));obtain ⟨raw,aV⟩:∃ raw,raw=D.readS (at_+(i:Nat)):=⟨_,rfl⟩;rw [← aV] at c6 c7 hr;clear aV;obtain ⟨o,ho⟩:∃ o,o=yCq st raw:=⟨_,rfl⟩;rw [← ho] at c7 hr;clear ho;have hbi:0≤(i:Int)∧(i:Int)≤65535:=zO;cases o with
 |none=>
  have dB:aB.2=15:=by rw [← hr]
  have f8:aB.1=[]:=by rw [← hr]
  rw [dB,f8];have j4:CtU prog W 216 [.int .u64 (st:Nat),strV raw] [] (.tuple #[strV [],.bool false]) []:=c7;repeat' (first|refine xqa ?_|refine xsf ?_ ?_|exact xdn ()|intro _)
 |some pc=>
  dsimp only at hr;have j4:CtU prog W 216 [.int .u64 (st:Nat),strV raw] [] (.tuple #[strV pc,.bool true]) []:=c7;obtain ⟨m,hm⟩:∃ m,m=min (bytes-(i:Int)*234) 234:=⟨_,rfl⟩;have dy:min 234 (bytes-(an.length:Int))=m:=zO;rw [← hm] at hr;by_cases hl:(pc.length:Int)=m;rotate_left
  ·rw [if_pos hl] at hr;have dB:aB.2=15:=by rw [← hr]
   have f8:aB.1=[]:=by rw [← hr]
   rw [dB,f8];repeat' (first|refine xqa ?_|refine xsf ?_ ?_|exact xdn ()|intro _)
  rw [if_neg (by simpa using hl)] at hr;repeat' (first|refine yAQ ?_;refine yED rfl rfl xS (.inr rfl) zO rfl (fun g2 c2=>?_)|refine zad (i+1) ?_|refine xqa ?_|refine xsf ?_ ?_|intro _)
  refine yAs ⟨(i+1,an++pc,g2,c2),by dsimp only;rw [dW];exact hr,by dsimp only;omega,by dsimp only;rw [zLa];omega⟩ (by show S-(i+1)<S-i;omega) ?_ ?_
  ·dsimp only;rw [zLa];exact xB
  ·have ebv:bvs an++bvs pc=bvs (an++pc):=by simp [bvs]
   dsimp only;rw [ebv,zLa];exact (xN)
end
theorem yX1 (n:Nat):yBy (zs (256*n)) n=List.replicate n (strV (List.replicate 256 0)):=by
 apply List.ext_getElem
 ·rw [yBs,zLB]
 ·intro i h1 h2;rw [yBs] at h1;simp only [yBy,List.getElem_map,List.getElem_range,List.getElem_replicate];rw [yYF _ _ _ zO];rfl
section
variable {W:World}
theorem xAE (n:Nat) (h1:1≤n) (h2:n≤65536):Ct prog W 6 [zi n] [] (fun p:Nat=>.tuple #[zPp p,zi 0]) (fun p=>[yA1 p (Dsk.blank n)]):=by
 have q1:decide ((n:Int)<1)=false:=zZ zO;have q2:decide ((65536:Int)<(n:Int))=false:=zZ zO;have h256:(List.replicate 256 (0:UInt8)).length=256:=zLB;refine zE func6 ntmps6 fun R=>?_;repeat' (first|refine zbx fun p=>?_|refine xqa ?_|refine xsf ?_ ?_|refine xdr 7 yVH ?_|apply zN|intro _)
 refine yAC (fun i:{x:Nat × Value//x.1≤n}=>[(0,zi (n:Nat)),(4,zPp p),(5,zi (i.1.1:Nat))])
  (fun i=>[yAj p [i.1.2,.slice none 0 0,.bool false,.bool false,zi 0,zi 0,zi 0,zi 0] 52]++[yA4 i.1.2 9 1 i.1.1 (List.replicate i.1.1 (strV (List.replicate 256 0)))]++R) (fun i=>n-i.1.1) ⟨(0,.slice none 0 0),zO⟩ xB (fun g q=>yEN (H:=[yAj p [.slice none 0 0,.slice none 0 0,.bool false,.bool false,zi 0,zi 0,zi 0,zi 0] 52]) g ((xN) g q)) (fun ⟨⟨k,sv⟩,hk⟩=>?_)
 dsimp only at hk ⊢;by_cases hlt:k<n
 ·have ax:List.replicate k (strV (List.replicate 256 0))++[strV (List.replicate 256 0)]=List.replicate (k+1) (strV (List.replicate 256 0)):=(List.replicate_succ' (n:=k) (a:=strV (List.replicate 256 0))).symm;repeat' (first|refine yAQ ?_;refine yCN (a2:=0) rfl rfl (by rfl) zO xS (Src.cells (i:=1) xS xC) (by rfl) zO xO zO zO rfl rfl (fun gw cw=>?_)|refine yGA ?_;refine yF5 (m:=256) rfl rfl rfl zO rfl (fun g=>?_)|refine yAD ?_;refine yAK rfl xF (by rfl) zO rfl (fun _=>?_)|refine xqa ?_|refine xsf ?_ ?_|refine xdr 7 yVH ?_|apply zN|intro _)
  all_goals rw [ax]
  all_goals refine yAs ⟨(k+1,_),zO⟩ (by show n-(k+1)<n-k;omega) xB (xN)
 ·have jn:k=n:=by omega
  subst jn;repeat' (first|refine xst ?_|refine xsf ?_ ?_|refine xdr 7 yVH ?_|apply zN|intro _)
  all_goals refine yA5 zor rfl (by (repeat' (first|exact Rvs.nil|(apply Rvs.tmp;exact rfl)));first|done|fail) p (by rfl) (fun g q=>yDP (F:=yCE p (Dsk.blank k)) (sv,.slice none 0 0) g ?_)
  all_goals (have e9:yCE p (Dsk.blank k) (sv,.slice none 0 0)=[yAj p [sv,.slice none 0 0,.bool false,.bool false,zi 0,zi 0,zi 0,zi 0] 52,yA4 sv 9 1 k (List.replicate k (strV (List.replicate 256 0)))]++[yA4 (.slice none 0 0) 128 2 0 []]:=by rw [← yX1];rfl)
  all_goals rw [e9]
  all_goals exact yEN g ((xN) g q)
end
def rup (most:Nat) (l:zB):Rd Nat:=match ru l with
 |.bad e=>.bad e
 |.ok n t=>if most<n then .bad 3 else .ok n t
theorem xB2 (m:Nat):IntKind.u8.wrap ((m:Nat):Int)=((UInt8.ofNat m).toNat:Int):=by simp only [IntKind.wrap,IntKind.signed,IntKind.bits,UInt8.toNat_ofNat'];simp
end Go.Proofs.YtoipmnikdiogcaaGreatDoor
