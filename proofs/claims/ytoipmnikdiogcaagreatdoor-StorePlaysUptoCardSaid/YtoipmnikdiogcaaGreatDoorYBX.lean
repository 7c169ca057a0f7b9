/-
  Are2, Calm, Calm8, Keep.
-/
import Derived.Test.YtoipmnikdiogcaaGreatDoorYBT
set_option maxRecDepth 100000
set_option maxHeartbeats 64000000
namespace Go.Proofs.YtoipmnikdiogcaaGreatDoor
open Go Go.RowKit
open Go.Proofs.Tryz
abbrev yBo:Pl:=(po [0,1,2] .nil)
abbrev zTBX0:List (Nat×Pl):=[(2,yBo),(4,yBo),(6,yBo),(16,yBo)]
section
variable {P:Program} {W:World} {n:Nat} {E:Env} {H R:List SP} {k:KK} {t u:TypeId} {x y z:Operand}
theorem yCv {kd:IntKind} {i j r:Int} {ts:Array TypeId} (hx:Env.ev E x=some (.int kd i)) (hy:Env.ev E y=some (.int kd j)) (h:min i j=r):Ev P W n E H (.call { callee:=.builtin .min,args:=#[x,y],argTypes:=ts }) (.int kd r):=by subst h;exact yQs hx hy
theorem yCp {l r:zB} {j:Int} {kj:IntKind} (hx:Env.ev E x=some (strV l)) (hz:Env.ev E z=some (.int kj j)) [hu:UIs P t .string] (hb:0≤j∧j≤l.length) (h:l.take j.toNat=r):Ev P W n E H (.slice t x none (some z) none) (strV r):=by subst h;exact yFn hx hz hb
theorem yBh {l r:zB} {i:Int} {ki:IntKind} (hx:Env.ev E x=some (strV l)) (hy:Env.ev E y=some (.int ki i)) [hu:UIs P t .string] (hb:0≤i∧i≤l.length) (h:l.drop i.toNat=r):Ev P W n E H (.slice t x (some y) none none) (strV r):=by subst h;exact yB0 hx hy hb
theorem yUu {e sz:Nat}:∀ g,yAH H g→yAH (yA4 (.slice none 0 0) e sz 0 []::H) g:=
 fun g q=>⟨fun _=>none,g,(fun _ _ q=>by cases q),(fun _ _ q=>by cases q),.rfl,⟨by simp,.inl ⟨rfl,rfl⟩⟩,q⟩
theorem KJ.row0 {e sz:Nat} (h:KJ W n k E (yA4 (.slice none 0 0) e sz 0 []::H)):KJ W n k E H:=⟨fun a w q s=>h.go a w q (s.mono yUu)⟩
end
def yDv (at_ aa:Int):Nat→Dsk→Int→zB→Nat × Dsk
 |0,D,_,_=>(D.flushE,D.flushD)
 |f+1,D,i,v=>if v=[] then (D.flushE,D.flushD) else if D.writeE (at_+i) (yAF aa (v.take 234))≠0 then (D.writeE (at_+i) (yAF aa (v.take 234)),D.writeD (at_+i) (yAF aa (v.take 234)))
  else yDv at_ aa f (D.writeD (at_+i) (yAF aa (v.take 234))) (i+1) (v.drop 234)
def yBF (D:Dsk) (at_ n aa:Int) (v:zB):Nat × Dsk:=
 if D.mayB at_ n=false then (6,D) else if aa=0 then (6,D) else if yCI n<(v.length:Int) then (3,D) else if D.off then (12,D) else yDv at_ aa v.length D 0 v
theorem yJA (at_ aa:Int) (f:Nat) (D:Dsk) (i:Int):yDv at_ aa f D i []=(D.flushE,D.flushD):=by cases f <;> simp [yDv]
section
variable {W:World} {E:Nat→Addr} {p:Nat} {D:Dsk}
theorem yKa (hE:ErrsOn L8 W E) (hN:NibAt W) (hn:D.n≤65536) (aS:D.und.length+65536<1073741823) (at_ n aa:Int) (v:zB) :CtU prog W 103 [zPp p,zi at_,zi n,.int .u64 aa,strV v] [DiskP p D] (yAy E (yBF D at_ n aa v).1) [DiskP p (yBF D at_ n aa v).2]:=by
 have e3:W.cell? ⟨11,0,none⟩=some (yAy E 3):=hE.at_ 3 zX;have e6:W.cell? ⟨0,0,none⟩=some (yAy E 6):=hE.at_ 6 zX;have dV:W.cell? ⟨2,0,none⟩=some (yAy E 12):=hE.at_ 12 zX;have c1:=yYK (W:=W) (p:=p) at_ n hn;by_cases h1:D.mayB at_ n=false
 ·rw [show yBF D at_ n aa v=(6,D) from if_pos h1];rw [h1] at c1;refine zE func103 ntmps103 fun R=>?_;repeat' (first|refine xqb ?_|refine xsf ?_ ?_|exact xdn ()|intro _)
 have iI:D.mayB at_ n=true:=by simpa using h1
 rw [iI] at c1;by_cases h2:aa=0
 ·rw [show yBF D at_ n aa v=(6,D) from (if_neg h1).trans (if_pos h2)];refine zE func103 ntmps103 fun R=>?_;repeat' (first|refine xqb ?_|refine xsf ?_ ?_|exact xdn ()|intro _)
 have c2:=yMN (W:=W) n;by_cases h3:yCI n<(v.length:Int)
 ·rw [show yBF D at_ n aa v=(3,D) from (if_neg h1).trans ((if_neg h2).trans (if_pos h3))];have q3:decide (yCI n<(v.length:Int))=true:=zY h3;refine zE func103 ntmps103 fun R=>?_;repeat' (first|refine xqb ?_|refine xsf ?_ ?_|exact xdn ()|intro _)
 have q3:decide (yCI n<(v.length:Int))=false:=zZ h3;have c3:CtU prog W 46 [zPp p] [DiskP p D] (.bool D.off) [DiskP p D]:=yDy;by_cases h4:D.off=true
 ·rw [show yBF D at_ n aa v=(12,D) from (if_neg h1).trans ((if_neg h2).trans ((if_neg h3).trans (if_pos h4)))];rw [h4] at c3;refine zE func103 ntmps103 fun R=>?_;repeat' (first|refine xqb ?_|refine xsf ?_ ?_|exact xdn ()|intro _)
 have h4':D.off=false:=by simpa using h4
 rw [h4'] at c3;have hW:yBF D at_ n aa v=yDv at_ aa v.length D 0 v:=(if_neg h1).trans ((if_neg h2).trans ((if_neg h3).trans (if_neg h4)));rw [hW];obtain ⟨aB,au⟩:∃ aB,aB=yDv at_ aa v.length D 0 v:=⟨_,rfl⟩;rw [← au];have cJ:0≤at_∧at_≤65536:=by unfold Dsk.mayB at iI;have:=of_decide_eq_true iI;omega
 have hvl:v.length≤234*65536:=by unfold yCI at h3;omega
 refine zE func103 ntmps103 fun R=>?_;repeat' (first|refine xqb ?_|refine xsf ?_ ?_|intro _)
 refine yAC (fun i:{s:Nat × Nat × Dsk × zB//yDv at_ aa s.2.1 s.2.2.1 s.1 s.2.2.2=aB∧s.2.2.1.und.length≤D.und.length+s.1∧(s.2.2.2≠[]→s.2.2.2.length+234*s.1=v.length)∧s.2.2.2.length≤234*s.2.1∧s.1≤65536}=>
  [(0,zPp p),(1,zi at_),(3,.int .u64 aa),(4,strV i.1.2.2.2),(11,zi (i.1.1:Nat))]) (fun i=>[DiskP p i.1.2.2.1]++R) (fun i=>i.1.2.1) ⟨(0,v.length,D,v),au.symm,by simp,fun _=>by simp,by dsimp only;omega,by dsimp only;omega⟩ xB (fun _ q=>q) (fun ⟨(k,f,Dk,rest),hr,hu,ai,hf,hk⟩=>?_)
 dsimp only at hr hu ai hf hk ⊢;by_cases hr0:rest=[]
 ·subst hr0;rw [yJA] at hr;have aF:aB.2=Dk.flushD:=by rw [← hr]
  have dB:yAy E aB.1=yAy E Dk.flushE:=by rw [← hr]
  rw [aF,dB];have c4:CtU prog W 125 [zPp p] [DiskP p Dk] (yAy E Dk.flushE) [DiskP p Dk.flushD]:=yMC hE zO;repeat' (first|refine yAo ?_;refine yAa (yDO rfl rfl rfl) ?_|refine xst ?_|refine xsf ?_ ?_|exact xdn ()|intro _)
 ·obtain ⟨f',rfl⟩:∃ f',f=f'+1:=⟨f-1,by have:=zLv.2 hr0;omega⟩;have ai:=ai hr0;have hpos:=zLv.2 hr0
  have aG:yDv at_ aa (f'+1) Dk k rest=if Dk.writeE (at_+k) (yAF aa (rest.take 234))≠0 then (Dk.writeE (at_+k) (yAF aa (rest.take 234)),Dk.writeD (at_+k) (yAF aa (rest.take 234)))
   else yDv at_ aa f' (Dk.writeD (at_+k) (yAF aa (rest.take 234))) (k+1) (rest.drop 234):=by
   show (if rest=[] then _ else _)=_;rw [if_neg hr0]
  rw [aG] at hr;clear aG;obtain ⟨pc,cK⟩:∃ pc,pc=rest.take 234:=⟨_,rfl⟩;obtain ⟨r2,aN⟩:∃ r2,r2=rest.drop 234:=⟨_,rfl⟩;have bk:pc.length=min rest.length 234:=by rw [cK,zLg];omega
  have hm1:min (rest.length:Int) 234=(pc.length:Nat):=zO;have bM:rest.take ((pc.length:Nat):Int).toNat=pc:=by rw [zLe,bk,cK];exact List.take_eq_take_iff.2 zO
  have jY:rest.drop ((pc.length:Nat):Int).toNat=r2:=by
   rw [zLe,bk,aN];by_cases hh:rest.length≤234
   ·rw [zLl zO,zLl zO]
   ·rw [show min rest.length 234=234 by omega]
  have hr2l:r2.length=rest.length-234:=by rw [aN,zLf]
  rw [← cK,← aN] at hr;have c5:=yMJ hN aa pc h2 zO;have c6:CtU prog W 124 [zPp p,zi (at_+(k:Nat)),strV (yAF aa pc)] [DiskP p Dk] (yAy E (Dk.writeE (at_+k) (yAF aa pc))) [DiskP p (Dk.writeD (at_+k) (yAF aa pc))]:=yMB hE _ _ zO;have iN:=yDE Dk (at_+k) (yAF aa pc);obtain ⟨D1,aL⟩:∃ D1,D1=Dk.writeD (at_+k) (yAF aa pc):=⟨_,rfl⟩;obtain ⟨e,he⟩:∃ e,e=Dk.writeE (at_+k) (yAF aa pc):=⟨_,rfl⟩;rw [← aL] at c6 hr iN;rw [← he] at c6 hr;clear cK aN aL he;by_cases hz:e=0
  ·subst hz;rw [if_neg zW] at hr;have kU:CtU prog W 124 [zPp p,zi (at_+(k:Nat)),strV (yAF aa pc)] [DiskP p Dk] .nilIface [DiskP p D1]:=c6;repeat' (first|(refine yBb ?_;first|refine yAa (yBh rfl rfl zO jY) ?_|refine yAa (yCp rfl rfl zO bM) ?_)|refine yDg ?_;refine yAa (yCv rfl rfl hm1) ?_|refine yAo ?_;refine yAa (yEp rfl rfl hr0) ?_|refine xst ?_|refine xsf ?_ ?_|intro _)
   exact yAs ⟨(k+1,f',D1,r2),hr,by dsimp only;omega,fun cO=>by dsimp only;have:=zLv.2 cO;dsimp only at this;omega,by dsimp only;omega,by dsimp only;omega⟩ (by show f'<f'+1;omega) xB (xN)
  ·rw [if_pos hz] at hr;have aF:aB.2=D1:=by rw [← hr]
   have dB:yAy E aB.1=yAy E e:=by rw [← hr]
   rw [aF,dB];obtain ⟨ea,bT⟩:=yDf (E:=E) hz;rw [bT] at c6 ⊢;repeat' (first|(refine yBb ?_;first|refine yAa (yBh rfl rfl zO jY) ?_|refine yAa (yCp rfl rfl zO bM) ?_)|refine yDg ?_;refine yAa (yCv rfl rfl hm1) ?_|refine yAo ?_;refine yAa (yEp rfl rfl hr0) ?_|refine xst ?_|refine xsf ?_ ?_|exact xdn ()|intro _)
def yMO (D:Dsk) (at_ aa bytes:Int):Nat→Nat→zB→zB × Nat
 |0,_,an=>(an,0)
 |f+1,i,an=>if D.readE (at_+i)≠0 then ([],D.readE (at_+i)) else
  match yCq aa (D.readS (at_+i)) with
  |none=>([],15)
  |some pc=>if (pc.length:Int)≠min (bytes-i*234) 234 then ([],15) else yMO D at_ aa bytes f (i+1) (an++pc)
def yCd (D:Dsk) (at_ n aa bytes:Int):zB × Nat:=
 if D.mayB at_ n=false then ([],6) else if aa=0 then ([],6) else if bytes<0 then ([],6) else if yCI n<bytes then ([],3) else if D.off then ([],12) else yMO D at_ aa bytes (yCm bytes).toNat 0 []
theorem yGD (hE:ErrsOn L8 W E) (dz:W.cell? ⟨6,0,none⟩=some (yAy E 15)) (hN:NibAt W) (hn:D.n≤65536) (at_ n aa bytes:Int) :CtU prog W 96 [zPp p,zi at_,zi n,.int .u64 aa,zi bytes] [DiskP p D] (.tuple #[strV (yCd D at_ n aa bytes).1,yAy E (yCd D at_ n aa bytes).2]) [DiskP p D]:=by
 have e3:W.cell? ⟨11,0,none⟩=some (yAy E 3):=hE.at_ 3 zX;have e6:W.cell? ⟨0,0,none⟩=some (yAy E 6):=hE.at_ 6 zX;have dV:W.cell? ⟨2,0,none⟩=some (yAy E 12):=hE.at_ 12 zX;have c1:=yYK (W:=W) (p:=p) at_ n hn;by_cases h1:D.mayB at_ n=false
 ·rw [show yCd D at_ n aa bytes=([],6) from if_pos h1];rw [h1] at c1;refine zE func96 ntmps96 fun R=>?_;repeat' (first|refine xca c1 fun _=>?_|refine xqb ?_|refine xsf ?_ ?_|refine xdt zTBX0 ?_|exact xdn ()|apply zN|intro _)
 have iI:D.mayB at_ n=true:=by simpa using h1
 rw [iI] at c1;by_cases h2:aa=0
 ·rw [show yCd D at_ n aa bytes=([],6) from (if_neg h1).trans (if_pos h2)];refine zE func96 ntmps96 fun R=>?_;repeat' (first|refine xca c1 fun _=>?_|refine xqb ?_|refine xsf ?_ ?_|refine xdt zTBX0 ?_|exact xdn ()|apply zN|intro _)
 by_cases hb:bytes<0
 ·rw [show yCd D at_ n aa bytes=([],6) from (if_neg h1).trans ((if_neg h2).trans (if_pos hb))];have qb:decide (bytes<0)=true:=zY hb;refine zE func96 ntmps96 fun R=>?_;repeat' (first|refine xca c1 fun _=>?_|refine xqb ?_|refine xsf ?_ ?_|refine xdt zTBX0 ?_|exact xdn ()|apply zN|intro _)
 have qb:decide (bytes<0)=false:=zZ hb;have c2:=yMN (W:=W) n;by_cases h3:yCI n<bytes
 ·rw [show yCd D at_ n aa bytes=([],3) from (if_neg h1).trans ((if_neg h2).trans ((if_neg hb).trans (if_pos h3)))];have q3:decide (yCI n<bytes)=true:=zY h3;refine zE func96 ntmps96 fun R=>?_;repeat' (first|refine xca c1 fun _=>?_|refine xca c2 fun _=>?_|refine xqb ?_|refine xsf ?_ ?_|refine xdt zTBX0 ?_|exact xdn ()|apply zN|intro _)
 have q3:decide (yCI n<bytes)=false:=zZ h3;have c3:CtU prog W 46 [zPp p] [DiskP p D] (.bool D.off) [DiskP p D]:=yDy;by_cases h4:D.off=true
 ·rw [show yCd D at_ n aa bytes=([],12) from (if_neg h1).trans ((if_neg h2).trans ((if_neg hb).trans ((if_neg h3).trans (if_pos h4))))];rw [h4] at c3;refine zE func96 ntmps96 fun R=>?_;repeat' (first|refine xca c1 fun _=>?_|refine xca c2 fun _=>?_|refine xca c3 fun _=>?_|refine xqb ?_|refine xsf ?_ ?_|refine xdt zTBX0 ?_|exact xdn ()|apply zN|intro _)
 have h4':D.off=false:=by simpa using h4
 rw [h4'] at c3;obtain ⟨S,hS⟩:∃ S,S=(yCm bytes).toNat:=⟨_,rfl⟩;have hR:yCd D at_ n aa bytes=yMO D at_ aa bytes S 0 []:=by rw [hS];exact (if_neg h1).trans ((if_neg h2).trans ((if_neg hb).trans ((if_neg h3).trans (if_neg h4))))
 rw [hR];have hbr:bytes≤234*65536:=by unfold yCI at h3;omega
 have hSI:yCm bytes=(S:Int)∧S≤65536:=by
  unfold yCm at hS ⊢;split at hS <;> rename_i hh
  ·rw [if_pos hh];omega
  ·rw [if_neg hh];omega
 have c5:CtU prog W 148 [zi bytes] [] (zi (S:Nat)) []:=(yPv bytes zO).val fun _=>by rw [hSI.1]
 obtain ⟨aB,au⟩:∃ aB,aB=yMO D at_ aa bytes S 0 []:=⟨_,rfl⟩;rw [← au];have cJ:0≤at_∧at_≤65536:=by unfold Dsk.mayB at iI;have:=of_decide_eq_true iI;omega
 clear hR hS;refine zE func96 ntmps96 fun R=>?_;repeat' (first|refine yAw ?_;refine yAv rfl (fun gb=>KJ.row0 (e:=5) (sz:=1) ?_)|(refine yAb ?_;first|refine xca c1 fun _=>?_|refine xca c2 fun _=>?_|refine xca c3 fun _=>?_|refine xca c5 fun _=>?_)|refine xqb ?_|refine xsf ?_ ?_|refine xdt zTBX0 ?_|apply zN|intro _)
 rename_i gb _;refine yAC (fun i:{s:Nat × zB × Value × Value//yMO D at_ aa bytes (S-s.1) s.1 s.2.1=aB∧s.1≤S∧s.2.1.length≤234*s.1∧((s.2.1=[]∧s.2.2.1=.pointer none∧s.2.2.2=.slice none 0 0)∨(s.2.1≠[]∧s.2.2.1=(zPp gb)∧∃ g c,s.2.2.2=.slice (zq g) s.2.1.length c))}=>
  [(0,zPp p),(1,zi at_),(3,.int .u64 aa),(4,zi bytes),(12,zPp gb),(41,zi (S:Nat)),(42,zi (i.1.1:Nat))])
  (fun i=>[DiskP p D,yR2 gb i.1.2.2.1 i.1.2.2.2,yA4 i.1.2.2.2 5 1 i.1.2.1.length (bvs i.1.2.1)]++R) (fun i=>S-i.1.1) ⟨(0,[],.pointer none,.slice none 0 0),au.symm,by dsimp only;omega,by simp,.inl ⟨rfl,rfl,rfl⟩⟩ xB (xN) (fun ⟨(i,an,q,v),hr,hi,bF,hqv⟩=>?_)
 dsimp only at hr hi bF hqv ⊢;by_cases hlt:i<S
 ·have ql:decide ((i:Int)<(S:Int))=true:=zY zO;obtain ⟨f,hf⟩:∃ f,S-i=f+1:=⟨S-i-1,zO⟩;have dW:S-(i+1)=f:=zO;rw [hf] at hr
  have aG:yMO D at_ aa bytes (f+1) i an=if D.readE (at_+i)≠0 then ([],D.readE (at_+i)) else
   match yCq aa (D.readS (at_+i)) with
   |none=>([],15)
   |some pc=>if (pc.length:Int)≠min (bytes-i*234) 234 then ([],15) else yMO D at_ aa bytes f (i+1) (an++pc):=rfl
  rw [aG] at hr;clear aG;have c6:=yMA (W:=W) (p:=p) (D:=D) hE (at_+(i:Nat));have c7:=yPu (W:=W) hN aa (D.readS (at_+(i:Nat)));obtain ⟨raw,aV⟩:∃ raw,raw=D.readS (at_+(i:Nat)):=⟨_,rfl⟩;obtain ⟨e,he⟩:∃ e,e=D.readE (at_+(i:Nat)):=⟨_,rfl⟩;rw [← aV] at c6 c7 hr;rw [← he] at c6 hr;clear aV he;by_cases hz:e=0;rotate_left
  ·rw [if_pos hz] at hr;have dB:yAy E aB.2=yAy E e:=by rw [← hr]
   have f8:strV aB.1=strV []:=by rw [← hr]
   rw [dB,f8];obtain ⟨ea,bT⟩:=yDf (E:=E) hz;rw [bT] at c6 ⊢;repeat' (first|refine xca c6 fun _=>?_|refine xqb ?_|refine xsf ?_ ?_|refine xdt zTBX0 ?_|exact xdn ()|apply zN|intro _)
  subst hz;rw [if_neg zW] at hr;have kU:CtU prog W 108 [zPp p,zi (at_+(i:Nat))] [DiskP p D] (.tuple #[strV raw,.nilIface]) [DiskP p D]:=c6;obtain ⟨o,ho⟩:∃ o,o=yCq aa raw:=⟨_,rfl⟩;rw [← ho] at c7 hr;clear ho;cases o with
  |none=>
   have dB:yAy E aB.2=yAy E 15:=by rw [← hr]
   have f8:strV aB.1=strV []:=by rw [← hr]
   rw [dB,f8];have j4:CtU prog W 149 [.int .u64 aa,strV raw] [] (.tuple #[strV [],.bool false]) []:=c7;repeat' (first|refine xca kU fun _=>?_|refine xca j4 fun _=>?_|refine xqb ?_|refine xsf ?_ ?_|refine xdt zTBX0 ?_|exact xdn ()|apply zN|intro _)
  |some pc=>
   dsimp only at hr;have j4:CtU prog W 149 [.int .u64 aa,strV raw] [] (.tuple #[strV pc,.bool true]) []:=c7;obtain ⟨m,hm⟩:∃ m,m=min (bytes-(i:Int)*234) 234:=⟨_,rfl⟩;rw [← hm] at hr;by_cases hl:(pc.length:Int)=m;rotate_left
   ·rw [if_pos hl] at hr;have dB:yAy E aB.2=yAy E 15:=by rw [← hr]
    have f8:strV aB.1=strV []:=by rw [← hr]
    rw [dB,f8];repeat' (first|refine xca kU fun _=>?_|refine xca j4 fun _=>?_|refine yDg ?_;refine yAa (yCv rfl rfl hm.symm) ?_|refine xqb ?_|refine xsf ?_ ?_|refine xdt zTBX0 ?_|exact xdn ()|apply zN|intro _)
   rw [if_neg (by simpa using hl)] at hr;have kq:234*(i:Int)<bytes:=by have h:=hSI.1;unfold yCm at h;split at h <;> omega
   have cK:pc≠[]:=by
    rintro rfl
    simp at hl;omega
   have hap:an++pc≠[]:=by simp [cK]
   have c8:Ct prog W 150 [zPp gb,strV pc] [yR2 gb q v,yA4 v 5 1 an.length (bvs an)] (fun _:Nat × Nat=>.tuple #[zi pc.length,.nilIface])
    (fun x=>[yR2 gb (zPp gb) (.slice (some ⟨x.1,0,none⟩) (an.length+pc.length) x.2),yA4 (.slice (some ⟨x.1,0,none⟩) (an.length+pc.length) x.2) 5 1 (an.length+pc.length) (bvs an++bvs pc)]):=
    yLw q (by rcases hqv with ⟨_,h,_⟩|⟨_,h,_⟩ <;> simp [h]) v an pc cK zO
   repeat' (first|refine xca kU fun _=>?_|refine xca j4 fun _=>?_|refine xca c8 fun x=>?_|refine yDg ?_;refine yAa (yCv rfl rfl hm.symm) ?_|refine xqb ?_|refine xsf ?_ ?_|refine xdt zTBX0 ?_|apply zN|intro _)
   rename_i x;refine yAs ⟨(i+1,an++pc,zPp gb,.slice (some ⟨x.1,0,none⟩) (an.length+pc.length) x.2),by dsimp only;rw [dW];exact hr,by dsimp only;omega,by dsimp only;rw [zLa];omega,.inr ⟨hap,rfl,x.1,x.2,by rw [zLa]⟩⟩ (by show S-(i+1)<S-i;omega) xB ?_;have ebv:bvs an++bvs pc=bvs (an++pc):=by simp [bvs]
   have eln:an.length+pc.length=(an++pc).length:=zW;dsimp only;rw [ebv,eln];exact (xN)
 ·have hiS:i=S:=by omega
  subst hiS;have ql:decide ((i:Int)<(i:Int))=false:=zZ zO;rw [Nat.sub_self] at hr;have dB:yAy E aB.2=.nilIface:=by rw [← hr];rfl
  have f8:strV aB.1=strV an:=by rw [← hr];rfl
  rw [dB,f8];rcases hqv with ⟨rfl,rfl,rfl⟩|⟨ao,rfl,g,c,rfl⟩
  ·have c6:=yR3 (W:=W) (b:=gb) (.pointer none);repeat' (first|refine xca c6 fun _=>?_|refine xqb ?_|refine xsf ?_ ?_|refine xdt zTBX0 ?_|exact xdn ()|apply zN|intro _)
  ·have c6:=yUe (W:=W) (b:=gb) (zPp gb) g c an ao zO;repeat' (first|refine xca c6 fun _=>?_|refine xqb ?_|refine xsf ?_ ?_|refine xdt zTBX0 ?_|exact xdn ()|apply zN|intro _)
end
def yLr (D:Dsk):Prop:=D.off=false∧D.armed=-1
theorem yHR {D:Dsk} (h:yLr D):D.gone=D:=by obtain ⟨h1,h2⟩:=h;unfold Dsk.gone;rw [if_neg zO,if_neg zO]
theorem yE1 {D:Dsk} (h:yLr D):D.dead=false:=by simp [Dsk.dead,h.2]
theorem yR9 (n:Nat):yLr (Dsk.blank n):=⟨rfl,rfl⟩
theorem yFv {D:Dsk} (h:yLr D) (i:Int) (s:zB):yLr (D.writeD i s)∧(D.writeD i s).n=D.n:=by
 have h1:yLr ({ D with und:=D.und++[(i.toNat,s)] }:Dsk):=h;unfold Dsk.writeD;split
 ·exact ⟨h,rfl⟩
 split
 ·split
  ·simp only [yE1 h,yHR h1];exact ⟨h,rfl⟩
  ·exact ⟨h,rfl⟩
 ·exact ⟨h,rfl⟩
theorem yKb {D:Dsk} (h:yLr D):yLr D.flushD∧D.flushD.n=D.n∧D.flushE=0∧D.flushD.und=[]∧D.flushD.img=yBD D.img D.und:=by
 have e:D.flushD={ D with img:=yBD D.img D.und,und:=[],flushes:=w64 (D.flushes+1) }:=by unfold Dsk.flushD;rw [if_neg (by rw [h.1];simp),if_neg (by rw [yE1 h];simp),yHR h]
 rw [e];refine ⟨h,rfl,?_,rfl,rfl⟩;simp [Dsk.flushE,h.1,yE1 h]
theorem ySa {D:Dsk} (h:yLr D) (hu:D.und=[]) (i:Nat) (hi:i<D.n):D.readE i=0∧D.readS i=cut D.img (i*256) 256:=by
 have h1:D.has (i:Int)=true:=by simp [Dsk.has,hi]
 constructor
 ·simp [Dsk.readE,h.1,h1]
 ·simp [Dsk.readS,h.1,h1,Dsk.rd,hu,yHy,Dsk.sec]
theorem yW8 (l:zB) (i:Nat):l.take (256*i)++cut l (i*256) 256=l.take (256*(i+1)):=by rw [show 256*(i+1)=256*i+256 by omega,List.take_add,cut,Nat.mul_comm i 256]
structure Rest (D:Dsk):Prop where
 calm:yLr D
 und:D.und=[]
 ok:D.ok
theorem Rest.rd {D:Dsk} (h:Rest D) (i:Nat):D.rd i=D.sec i:=by simp [Dsk.rd,h.und,yHy]
theorem yGE {D:Dsk} (h:Rest D) (a v:Nat) (s:zB) (ha:a+2≤D.n) (hv:1≤v) (fA:v≤1099511627776) (hs:s.length≤234) :yB1 D a v s=0∧Rest (yBB D a v s)∧(yBB D a v s).n=D.n∧(yBB D a v s).sec (a+v % 2)=yAF v s∧∀ j,j≠a+v % 2→j<D.n→(yBB D a v s).sec j=D.sec j:=by
 have hn:=h.ok.n2;have ah:D.roomB (a:Int)=true:=by unfold Dsk.roomB;exact zY zO
 have fj:yCQ D (a:Int) (v:Int)=true:=by unfold yCQ;rw [ah,zY (show (1:Int)≤v by omega),zY (show (v:Int)≤1099511627776 by omega)];rfl
 have hb:¬ (yCQ D (a:Int) (v:Int)=false):=by rw [fj];simp
 have hi:((a:Int)+(v:Int) % 2)=((a+v % 2:Nat):Int):=zO;have ai:=yBk (v:Int) s hs;have hi2:a+v % 2<D.n:=zO;have aQ:D.has ((a+v % 2:Nat):Int)=true:=by unfold Dsk.has;exact zY zO
 have hwE:D.writeE ((a:Int)+(v:Int) % 2) (yAF v s)=0:=by rw [hi];unfold Dsk.writeE;rw [if_neg (by rw [h.calm.1];simp),if_pos aQ,if_pos ai,if_neg (by rw [yE1 h.calm];simp)]
 have aL:yLr ({ D with und:=D.und++[(a+v % 2,yAF (v:Int) s)] }:Dsk):=h.calm;have hw:yDq D (a:Int) (v:Int) s={ D with und:=[(a+v % 2,yAF (v:Int) s)],writes:=w64 (D.writes+1) }:=by unfold yDq Dsk.writeD;rw [hi,if_neg (by rw [h.calm.1];simp),if_pos aQ,if_pos ai];simp only [yE1 h.calm,yHR aL,zLe];simp [h.und]
 have hok1:(yDq D (a:Int) (v:Int) s).ok:=Dsk.writeD_ok h.ok _ _;have eF:yLr (yDq D (a:Int) (v:Int) s):=by rw [hw];exact h.calm
 have hf:=yKb eF;have hl:=h.ok.len;have e1:yB1 D a v s=0:=by unfold yB1;rw [if_neg hb,if_neg zO,if_neg (by rw [hwE];simp)];exact hf.2.2.1
 have e2:yBB D a v s=(yDq D (a:Int) (v:Int) s).flushD:=by unfold yBB;rw [if_neg hb,if_neg zO,if_neg (by rw [hwE];simp)]
 have cN:(yDq D (a:Int) (v:Int) s).n=D.n:=by rw [hw]
 have jj:(yBB D a v s).img=lay D.img ((a+v % 2)*256) (yAF (v:Int) s):=by rw [e2,hf.2.2.2.2,hw];rfl
 refine ⟨e1,⟨by rw [e2];exact hf.1,by rw [e2];exact hf.2.2.2.1,by rw [e2];exact Dsk.flushD_ok hok1⟩,by rw [e2,hf.2.1,cN],?_,fun j hj hjn=>?_⟩
 ·unfold Dsk.sec;rw [jj];have:=yNM D.img (yAF (v:Int) s) ((a+v % 2)*256) (by rw [ai];omega);rw [ai] at this;exact this
 ·unfold Dsk.sec;rw [jj];rcases Nat.lt_or_ge j (a+v % 2) with hlt|gu
  ·exact yEQ _ _ _ _ _ (by rw [ai];omega) zO
  ·exact yDJ _ _ _ _ _ (by rw [ai];omega) (by rw [ai];omega)
structure Holds (D:Dsk) (a c:Nat) (l:zB):Prop where
 here:0<c→yDh (D.sec (a+c % 2)) ((c % 2:Nat):Int)=some ((c:Int),l)
 other:yA6 (D.sec (a+(c+1) % 2)) (((c+1) % 2:Nat):Int)<(if c=0 then 1 else (c:Int))
 none_:c=0→yA6 (D.sec a) 0=0
theorem Holds.told {D:Dsk} {a c:Nat} {l:zB} (hr:Rest D) (ha:a+2≤D.n) (h:Holds D a c l) :yBA D a=(if c=0 then 14 else 0)∧yB6 D a=c∧yBT D a=(if c=0 then [] else l):=by
 have ah:D.roomB (a:Int)=true:=by unfold Dsk.roomB;exact zY zO
 have b0:=yFt (D.sec a) 0;have b1:=yFt (D.sec (a+1)) 1;have hE:yBA D a=if yA3 D a 2=0 then 14 else 0:=by unfold yBA;rw [if_neg (by rw [ah];simp),if_neg (by rw [hr.calm.1];simp),zLe]
 have hV:yA3 D a 2=if (if 0<yA6 (D.sec a) 0 then yA6 (D.sec a) 0 else 0)<yA6 (D.sec (a+1)) 1 then yA6 (D.sec (a+1)) 1 else (if 0<yA6 (D.sec a) 0 then yA6 (D.sec a) 0 else 0):=by simp only [yA3,hr.rd];rfl
 have hS:yBX D a 2=if (if 0<yA6 (D.sec a) 0 then yA6 (D.sec a) 0 else 0)<yA6 (D.sec (a+1)) 1 then yCZ (D.sec (a+1)) 1 else (if 0<yA6 (D.sec a) 0 then yCZ (D.sec a) 0 else []):=by simp only [yBX,yA3,hr.rd];rfl
 have eN:=h.other;unfold yBT yB6;rw [hE,zLe];by_cases hc:c=0
 ·subst hc;have h0:=h.none_ rfl;simp only [zLq,if_true] at eN;have h1:yA6 (D.sec (a+1)) 1=0:=by have:yA6 (D.sec (a+1)) 1<1:=eN;omega
  have e:yA3 D a 2=0:=by rw [hV,h0,h1];simp
  rw [e];simp
 ·have hh:=h.here zO;rw [if_neg hc] at eN;rcases Nat.mod_two_eq_zero_or_one c with hm|hm
  ·have hm':(c+1) % 2=1:=by omega
   rw [hm] at hh;rw [hm'] at eN;have aR:yA6 (D.sec a) 0=c:=by unfold yA6;rw [show yDh (D.sec a) 0=some ((c:Int),l) from hh];rfl
   have hs0:yCZ (D.sec a) 0=l:=by unfold yCZ;rw [show yDh (D.sec a) 0=some ((c:Int),l) from hh];rfl
   have ho:yA6 (D.sec (a+1)) 1<c:=eN;have p0:(0:Int)<(c:Int):=zO;have p1:¬ ((c:Int)<yA6 (D.sec (a+1)) 1):=zO;have e:yA3 D a 2=c:=by rw [hV,aR,if_pos p0,if_neg p1]
   have e3:yBX D a 2=l:=by rw [hS,aR,if_pos p0,if_neg p1,if_pos p0,hs0]
   rw [e,e3,if_neg zO,if_neg hc,if_neg hc];simp
  ·have hm':(c+1) % 2=0:=by omega
   rw [hm] at hh;rw [hm'] at eN;have eA:yA6 (D.sec (a+1)) 1=c:=by unfold yA6;rw [show yDh (D.sec (a+1)) 1=some ((c:Int),l) from hh];rfl
   have bM:yCZ (D.sec (a+1)) 1=l:=by unfold yCZ;rw [show yDh (D.sec (a+1)) 1=some ((c:Int),l) from hh];rfl
   have ho:yA6 (D.sec a) 0<c:=eN;have hlt:(if 0<yA6 (D.sec a) 0 then yA6 (D.sec a) 0 else 0)<(c:Int):=by split <;> omega
   have e:yA3 D a 2=c:=by rw [hV,eA,if_pos hlt]
   have e3:yBX D a 2=l:=by rw [hS,eA,if_pos hlt,bM]
   rw [e,e3,if_neg zO,if_neg hc,if_neg hc];simp
theorem Holds.keep {D D':Dsk} {a c:Nat} {l:zB} (h:Holds D a c l) (hs:∀ k,k<2→D'.sec (a+k)=D.sec (a+k)):Holds D' a c l:=by have h0:D'.sec a=D.sec a:=hs 0 zO;exact ⟨fun q=>by rw [hs _ (Nat.mod_lt _ zO)];exact h.here q,by rw [hs _ (Nat.mod_lt _ zO)];exact h.other,fun q=>by rw [h0];exact h.none_ q⟩
theorem Holds.next {D:Dsk} {a c:Nat} {l s:zB} (hr:Rest D) (ha:a+2≤D.n) (h:Holds D a c l) (hc:c+1≤1099511627776) (hs:s.length≤234):Holds (yBB D a (c+1:Nat) s) a (c+1) s:=by
 obtain ⟨_,_,_,h1,h2⟩:=yGE hr a (c+1) s ha zO hc hs;refine ⟨fun _=>?_,?_,fun q=>by omega⟩
 ·rw [h1,show (((c+1) % 2:Nat):Int)=((c+1:Nat):Int) % 2 by omega];exact yR8 (c+1) s hs zO hc
 ·have e:(c+1+1) % 2=c % 2:=by omega
  rw [e,h2 _ zO zO,if_neg zO];by_cases hz:c=0
  ·subst hz;have:yA6 (D.sec a) 0=0:=h.none_ rfl;show yA6 (D.sec a) 0<((0+1:Nat):Int);omega
  ·have hh:=h.here zO;have:yA6 (D.sec (a+c % 2)) ((c % 2:Nat):Int)=c:=by unfold yA6;rw [hh];rfl
   rw [this];omega
theorem yKc (n i:Nat) (h:i<n):(Dsk.blank n).sec i=zs 256:=yYF _ _ _ zO
theorem yPw:yA6 (zs 256) 0=0:=zK
theorem yPx:yA6 (zs 256) 1=0:=zK
theorem Holds.blank (n a:Nat) (h:a+2≤n):Holds (Dsk.blank n) a 0 []:=by
 refine ⟨fun q=>by omega,?_,fun _=>?_⟩
 ·show yA6 ((Dsk.blank n).sec (a+1)) 1<1;rw [yKc _ _ zO,yPx];omega
 ·rw [yKc _ _ zO,yPw]
theorem yIF (n:Nat) (h1:1≤n) (h2:n≤65536):Rest (Dsk.blank n):=⟨yR9 n,rfl,Dsk.blank_ok n h1 h2⟩
theorem yGF (l:zB) (n:Nat) (hn:n≤8):∃ v:Nat,v<2 ^ (8*n)∧yDX l n=(v:Int)∧∀ i,i<n→l.getD i 0=yDR (v:Int) i:=by
 induction n with
 |zero=>exact ⟨0,by simp,rfl,fun i hi=>by omega⟩
 |succ n ih=>
  obtain ⟨v,hv,hg,hb⟩:=ih zO;have hc:=zLy (l.getD n 0);obtain ⟨c,iP⟩:∃ c,c=(l.getD n 0).toNat:=⟨_,rfl⟩;refine ⟨v+(l.getD n 0).toNat*2 ^ (8*n),?_,?_,fun i hi=>?_⟩
  ·rw [← iP];rw [← iP] at hc;rw [show 8*(n+1)=8*n+8 by omega,Nat.pow_add];have h1:v+c*2 ^ (8*n)<(1+c)*2 ^ (8*n):=by rw [Nat.add_mul];omega
   have h2:(1+c)*2 ^ (8*n)≤256*2 ^ (8*n):=zLt _ zO;rw [Nat.mul_comm _ (2 ^ 8)];omega
  ·show yEq (yDX l n) n (l.getD n 0)=_;rw [hg,yFu _ _ _ zO hv]
  ·apply UInt8.toNat_inj.1;rw [yGB _ _ zO];rcases Nat.lt_or_ge i n with h|h
   ·have h0:=congrArg UInt8.toNat (hb i h);rw [yGB _ _ zO] at h0;rw [h0,← iP];have e:c*2 ^ (8*n)=(c*2 ^ (8*(n-i-1))*256)*2 ^ (8*i):=by rw [Nat.mul_assoc,Nat.mul_assoc];congr 1;rw [← Nat.mul_assoc,show (256:Nat)=2 ^ 8 from rfl,← Nat.pow_add,← Nat.pow_add];congr 1;omega
    rw [e,Nat.add_mul_div_right _ _ (Nat.two_pow_pos _),Nat.add_mul_mod_self_right]
   ·have:i=n:=by omega
    subst this;rw [← iP];rw [← iP] at hc;rw [Nat.add_mul_div_right _ _ (Nat.two_pow_pos _),Nat.div_eq_of_lt hv,zLq,Nat.mod_eq_of_lt hc,iP]
def yLx (new old:zB) (k:Nat):zB:=new.take k++old.drop k
structure Still (D:Dsk):Prop where
 on:D.off=false
 und:D.und=[]
 ok:D.ok
theorem Still.rest {D:Dsk} (h:Still D):Rest ({ D with armed:=-1 }:Dsk):=⟨⟨h.on,rfl⟩,h.und,⟨h.ok.n1,h.ok.n2,h.ok.len,h.ok.und,by simp,by simp⟩⟩
theorem Still.told {D:Dsk} {a c:Nat} {l:zB} (hr:Still D) (ha:a+2≤D.n) (h:Holds D a c l) :yBA D a=(if c=0 then 14 else 0)∧yB6 D a=c∧yBT D a=(if c=0 then [] else l):=
 Holds.told (D:={ D with armed:=-1 }) hr.rest ha ⟨h.here,h.other,h.none_⟩
theorem yN0 {D:Dsk} (h:Still D) (k:Int) (hk:k≤9223372036854775807):Still (D.arm k):=⟨h.on,h.und,Dsk.arm_ok h.ok k hk⟩
theorem ySb {D:Dsk} (h:Still D) (a v:Nat) (s:zB) (ha:a+2≤D.n) (hv:1≤v) (fA:v≤1099511627776) (hs:s.length≤234) :(D.armed=0→yB1 D a v s=12∧yBB D a v s={ D with off:=true,und:=[(a+v % 2,yAF v s)] })∧ (D.armed=1→yB1 D a v s=12∧yBB D a v s={ D with armed:=0,off:=true,und:=[(a+v % 2,yAF v s)],writes:=w64 (D.writes+1) })∧ (D.armed≠0→D.armed≠1→yB1 D a v s=0∧∃ r,yBB D a v s={ D with armed:=r,img:=lay D.img ((a+v % 2)*256) (yAF v s),writes:=w64 (D.writes+1),flushes:=w64 (D.flushes+1) }):=by
 have ah:D.roomB (a:Int)=true:=by unfold Dsk.roomB;exact zY zO
 have fj:yCQ D (a:Int) (v:Int)=true:=by unfold yCQ;rw [ah,zY (show (1:Int)≤v by omega),zY (show (v:Int)≤1099511627776 by omega)];rfl
 have hi:((a:Int)+(v:Int) % 2)=((a+v % 2:Nat):Int):=zO;have ai:=yBk (v:Int) s hs;have aQ:D.has ((a+v % 2:Nat):Int)=true:=by unfold Dsk.has;exact zY zO
 have bi:=h.ok.arm1;obtain ⟨n,img,und,off,armed,wr,fl,lf⟩:=D;obtain rfl:off=false:=h.on;obtain rfl:und=[]:=h.und;have hb:¬ (yCQ ({ n:=n,img:=img,und:=[],off:=false,armed:=armed,writes:=wr,flushes:=fl,life:=lf }:Dsk) (a:Int) (v:Int)=false):=by rw [fj];simp
 obtain ⟨q,hq⟩:∃ q,q=yAF (v:Int) s:=⟨_,rfl⟩;have j2:¬ (234<s.length):=zO;unfold yB1 yBB yDq;rw [if_neg hb,if_neg j2,if_neg hb,if_neg j2,hi,← hq];rw [← hq] at ai;obtain ⟨i,hii⟩:∃ i,i=a+v % 2:=⟨_,rfl⟩;rw [← hii] at aQ ⊢;dsimp only at bi;refine ⟨fun h0=>?_,fun h0=>?_,fun h0 h1=>?_⟩
 ·dsimp only at h0;subst h0;simp [Dsk.writeE,Dsk.writeD,Dsk.dead,Dsk.gone,aQ,ai]
 ·dsimp only at h0;subst h0;simp [Dsk.writeE,Dsk.writeD,Dsk.flushE,Dsk.flushD,Dsk.dead,Dsk.gone,aQ,ai]
 ·dsimp only at h0 h1;by_cases hp:0<armed
  ·have h2:0<armed-1:=by omega
   have h3:¬ (armed-1=0):=zO;have h4:1<armed:=zO;simp [h4,Dsk.writeE,Dsk.writeD,Dsk.flushE,Dsk.flushD,Dsk.dead,Dsk.gone,aQ,ai,h0,hp,h3,yBD]
  ·simp [Dsk.writeE,Dsk.writeD,Dsk.flushE,Dsk.flushD,Dsk.dead,Dsk.gone,aQ,ai,h0,hp,yBD]
end Go.Proofs.YtoipmnikdiogcaaGreatDoor
