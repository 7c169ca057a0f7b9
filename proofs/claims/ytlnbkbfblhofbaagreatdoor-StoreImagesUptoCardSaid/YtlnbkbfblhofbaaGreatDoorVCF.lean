/-
  Jou2, Jou3, AreT, JLe1, JLe2.
-/
import Derived.Test.YtlnbkbfblhofbaaGreatDoorVCA
import Derived.Test.YtlnbkbfblhofbaaGreatDoorVBX
set_option maxRecDepth 100000
set_option maxHeartbeats 64000000
namespace Go.Proofs.YtlnbkbfblhofbaaGreatDoor
open Go Go.RowKit
open Go.Proofs.Tryz
abbrev ySI:Pl:=(.op 0 (.op 1 (.op 2 (.op 3 (.op 4 (.op 5 (.op 6 (.op 7 (.op 8 (.op 9 (.op 10 (.op 13 (.op 14 (.op 15 (.ef 11 [15,14,13] (.op 12 (.op 16 (.ef 17 [] (.op 18 .nil)))))))))))))))))))
abbrev ySJ:Pl:=(.op 0 (.op 3 (.op 4 (.op 5 (.ef 1 [5,4,3,0] (.op 2 (.op 6 (.ef 7 [0] (.ef 8 [] (.ef 9 [] .nil))))))))))
abbrev yPc:Pl:=(.op 0 (.op 1 (.op 2 (.op 3 (.op 4 (.op 5 (.op 6 (.op 7 (.op 8 (.op 9 (.op 10 (.ef 11 [] (.op 12 (.op 13 (.op 14 (.op 15 (.op 16 .nil)))))))))))))))))
abbrev yPd:Pl:=(.op 0 (.op 1 (.op 2 (.op 3 (.op 4 (.op 5 (.op 6 (.op 7 (.op 8 (.op 9 (.op 10 (.op 11 (.op 12 (.op 13 (.op 14 (.op 15 (.op 16 (.op 17 (.ef 18 [] (.op 19 .nil))))))))))))))))))))
abbrev yPe:Pl:=(.op 0 (.op 1 (.op 2 (.op 3 (.op 4 (.op 5 (.ef 6 [3,2,1,0] (.op 7 (.op 8 (.op 9 (.ef 10 [] .nil)))))))))))
def yBi:Nat→List UInt8→List (List UInt8)
 |0,_=>[]
 |f+1,l=>if l=[] then [] else (0::l.take 233)::yBi f (l.drop 233)
def yEu (n:Nat):List UInt8:=[1,UInt8.ofNat (n % 256),UInt8.ofNat (n / 256 % 256),UInt8.ofNat (n / 65536 % 256),UInt8.ofNat (n / 16777216 % 256)]
def yCK (r:List UInt8):List (List UInt8):=(yEu r.length++r.take 229)::yBi r.length (r.drop 229)
theorem yCh (f:Nat):yBi f []=[]:=by cases f <;> simp [yBi]
theorem yBY (f:Nat) (l:List UInt8) (h:l≠[]):yBi (f+1) l=(0::l.take 233)::yBi f (l.drop 233):=by
 show (if l=[] then _ else _)=_
 rw [if_neg h]
theorem yJ1:∀ (f:Nat) (l:List UInt8),l.length≤233*f→(yBi f l).length=(l.length+232) / 233:=by
 intro f
 induction f with
 |zero=>intro l h;have:l=[]:=List.length_eq_zero_iff.1 zO;subst this;rfl
 |succ f ih=>
  intro l h
  by_cases h0:l=[]
  ·subst h0;rw [yCh];rfl
  ·have hp:=zLv.2 h0
   rw [yBY _ _ h0,zLj,ih _ (by rw [zLf];omega),zLf]
   omega
theorem yQt:∀ (f:Nat) (l:List UInt8),∀ p ∈ yBi f l,p.length≤234:=by
 intro f
 induction f with
 |zero=>intro l p hp;cases hp
 |succ f ih=>
  intro l p hp
  by_cases h0:l=[]
  ·subst h0;rw [yCh] at hp;cases hp
  ·rw [yBY _ _ h0] at hp
   rcases zLm.1 hp with rfl|hp
   ·rw [zLj,zLg];omega
   ·exact ih _ _ hp
theorem yCL (r:List UInt8):((yCK r).length:Int)=yBQ r.length:=by
 unfold yCK yBQ
 rw [zLj,yJ1 _ _ (by rw [zLf];omega),zLf]
 split
 ·omega
 split <;> omega
theorem yLw (r:List UInt8):∀ p ∈ yCK r,p.length≤234:=by
 intro p hp
 unfold yCK at hp
 rcases zLm.1 hp with rfl|hp
 ·rw [zLa,zLg];show 5+_≤234;omega
 ·exact yQt _ _ _ hp
theorem yFP (n k:Nat):IntKind.u8.wrap ((n / k:Nat):Int)=((UInt8.ofNat (n / k % 256)).toNat:Int):=by
 have e:IntKind.u8.wrap ((n / k:Nat):Int)=((n / k:Nat):Int) % 256:=rfl
 rw [e,UInt8.toNat_ofNat']
 omega
theorem yMK (n:Nat):IntKind.u8.wrap ((n:Nat):Int)=((UInt8.ofNat (n % 256)).toNat:Int):=by
 have e:IntKind.u8.wrap ((n:Nat):Int)=((n:Nat):Int) % 256:=rfl
 rw [e,UInt8.toNat_ofNat']
 omega
theorem yHI (n j:Nat) (hj:j≤24):((n:Nat):Int).fdiv (2 ^ (min ((j:Nat):Int).toNat IntKind.i64.bits))=((n / 2 ^ j:Nat):Int):=by
 have hm:min ((j:Nat):Int).toNat IntKind.i64.bits=j:=by
  show min ((j:Nat):Int).toNat 64=j
  omega
 rw [hm,Int.fdiv_eq_ediv_of_nonneg _ (by exact Int.pow_nonneg zX)]
 simp
section
variable {W:World} {E:Nat→Addr} {p g:Nat} {D:Dsk}
theorem ySK (r:List UInt8) (hl:r.length≤1048576):Ct prog W 102 [strV r] [] (fun x:Nat × Nat=>.slice (some ⟨x.1,0,none⟩) (yCK r).length x.2) (fun x=>[yAP (.slice (some ⟨x.1,0,none⟩) (yCK r).length x.2) 9 1 (yCK r).length ((yCK r).map strV)]):=by
 obtain ⟨res,hres⟩:∃ res,res=yCK r:=⟨_,rfl⟩
 rw [← hres]
 have b0:=yMK r.length
 have b1:=yFP r.length 256
 have b2:=yFP r.length 65536
 have b3:=yFP r.length 16777216
 have s1:((r.length:Nat):Int).fdiv (2 ^ (min (8:Int).toNat IntKind.i64.bits))=((r.length / 256:Nat):Int):=yHI r.length 8 zO
 have s2:((r.length:Nat):Int).fdiv (2 ^ (min (16:Int).toNat IntKind.i64.bits))=((r.length / 65536:Nat):Int):=yHI r.length 16 zO
 have s3:((r.length:Nat):Int).fdiv (2 ^ (min (24:Int).toNat IntKind.i64.bits))=((r.length / 16777216:Nat):Int):=yHI r.length 24 zO
 obtain ⟨c0,hc0⟩:∃ c,c=UInt8.ofNat (r.length % 256):=⟨_,rfl⟩
 obtain ⟨c1,hc1⟩:∃ c,c=UInt8.ofNat (r.length / 256 % 256):=⟨_,rfl⟩
 obtain ⟨c2,hc2⟩:∃ c,c=UInt8.ofNat (r.length / 65536 % 256):=⟨_,rfl⟩
 obtain ⟨c3,hc3⟩:∃ c,c=UInt8.ofNat (r.length / 16777216 % 256):=⟨_,rfl⟩
 have hhead:yEu r.length=[1,c0,c1,c2,c3]:=by rw [hc0,hc1,hc2,hc3];rfl
 rw [← hc0] at b0
 rw [← hc1] at b1
 rw [← hc2] at b2
 rw [← hc3] at b3
 obtain ⟨n1,hn1⟩:∃ m,m=r.length / 256:=⟨_,rfl⟩
 obtain ⟨n2,hn2⟩:∃ m,m=r.length / 65536:=⟨_,rfl⟩
 obtain ⟨n3,hn3⟩:∃ m,m=r.length / 16777216:=⟨_,rfl⟩
 rw [← hn1] at s1 b1
 rw [← hn2] at s2 b2
 rw [← hn3] at s3 b3
 obtain ⟨ct,hct⟩:∃ m,m=min r.length 229:=⟨_,rfl⟩
 have hmin:min (r.length:Int) 229=(ct:Nat):=zO
 have ht:r.take ((ct:Nat):Int).toNat=r.take 229:=by rw [zLe,hct];exact List.take_eq_take_iff.2 zO
 have hd:r.drop ((ct:Nat):Int).toNat=r.drop 229:=by
  rw [zLe,hct]
  by_cases hh:r.length≤229
  ·rw [zLl zO,zLl zO]
  ·rw [show min r.length 229=229 by omega]
 obtain ⟨r1,hr1⟩:∃ x,x=r.take 229:=⟨_,rfl⟩
 obtain ⟨r2,hr2⟩:∃ x,x=r.drop 229:=⟨_,rfl⟩
 have hr1l:r1.length≤229:=by rw [hr1,zLg];omega
 have hr2l:r2.length≤r.length:=by rw [hr2,zLf];omega
 have hall:[[1,c0,c1,c2,c3]++r1]++yBi r.length r2=res:=by rw [hres,hr1,hr2,← hhead];rfl
 rw [← hr1] at ht
 rw [← hr2] at hd
 clear hc0 hc1 hc2 hc3 hn1 hn2 hn3 hr1 hr2 hhead hres
 refine Ct.enter func102 rfl ntmps102 zW (fun R=>?_)
 repeat' (first|(refine yAF ?_;first|refine yAI rfl xF (by rfl) zO rfl (fun g2=>?_)|refine yJb (v0:=1) (v1:=c0) (v2:=c1) (v3:=c2) (v4:=c3) rfl rfl rfl rfl rfl rfl (fun g1=>?_))|(refine yEf ?_;first|refine yAa (yC4 (l:=[1,c0,c1,c2,c3]) rfl xS rfl) ?_|refine yAa (yAg rfl b3) ?_|refine yAa (yAg rfl b2) ?_|refine yAa (yAg rfl b1) ?_|refine yAa (yAg rfl b0) ?_)|(refine yAQ ?_;first|refine yAa (yAT rfl rfl zO hd) ?_|refine yAa (yBW rfl rfl zO ht) ?_)|refine yMc ?_;refine yAa (yB1 rfl rfl hmin) ?_|refine yWf ?_;refine yAa (yFO rfl rfl) ?_|(refine yJ8 ?_;first|refine yAa (yDv rfl rfl zO s3) ?_|refine yAa (yDv rfl rfl zO s2) ?_|refine yAa (yDv rfl rfl zO s1) ?_)|refine xst ?_|refine xsa ?_;intro _|refine xsb ?_ ?_<;>intro _<;>try omega|refine xsc ?_|refine xdr 3 ySI ?_|refine xdr 8 ySJ ?_|refine xsd ?_ ?_|exact Rech.nil|fail)
 refine KJ.toRow (g:=g2) (m:=1) (size:=1) xS (by rfl) (by unfold maxLen;omega) ?_
 refine yAz (fun i:{s:Nat × List UInt8 × List (List UInt8) × Nat × Nat//s.2.2.1++yBi s.1 s.2.1=res∧s.2.1.length≤233*s.1∧s.2.1.length≤1048576∧s.2.2.1.length+s.1≤1048577}=>[(0,strV i.1.2.1),(5,.slice (some ⟨i.1.2.2.2.1,0,none⟩) i.1.2.2.1.length i.1.2.2.2.2)])
  (fun i=>[yAP (.slice (some ⟨i.1.2.2.2.1,0,none⟩) i.1.2.2.1.length i.1.2.2.2.2) 9 1 i.1.2.2.1.length (i.1.2.2.1.map strV)]++R) (fun i=>i.1.1) ⟨(r.length,r2,[[1,c0,c1,c2,c3]++r1],g2,1),hall,by dsimp only;omega,by dsimp only;omega,by dsimp only [List.length];omega⟩ xB (xN) (fun ⟨(f,rest,acc,ga,ca),hr,hf,hrl,hal⟩=>?_)
 dsimp only at hr hf hrl hal ⊢
 by_cases h0:rest=[]
 ·subst h0
  rw [yCh,zLs] at hr
  subst hr
  repeat' (first|refine yD3 ?_;refine yAa (yEn rfl rfl rfl) ?_|refine xst ?_|refine xsa ?_;intro _|refine xsb ?_ ?_<;>intro _<;>try omega|refine xsc ?_|refine xdr 3 ySI ?_|refine xdr 8 ySJ ?_|refine xsd ?_ ?_|exact Rech.nil|fail)
  all_goals (exact xdn (ga,ca))
 obtain ⟨f',rfl⟩:∃ f',f=f'+1:=⟨f-1,by have:=zLv.2 h0;omega⟩
 rw [yBY _ _ h0] at hr
 obtain ⟨cu,hcu⟩:∃ m,m=min rest.length 233:=⟨_,rfl⟩
 have hmin2:min (rest.length:Int) 233=(cu:Nat):=zO
 have ht2:rest.take ((cu:Nat):Int).toNat=rest.take 233:=by rw [zLe,hcu];exact List.take_eq_take_iff.2 zO
 have hd2:rest.drop ((cu:Nat):Int).toNat=rest.drop 233:=by
  rw [zLe,hcu]
  by_cases hh:rest.length≤233
  ·rw [zLl zO,zLl zO]
  ·rw [show min rest.length 233=233 by omega]
 obtain ⟨q1,hq1⟩:∃ x,x=rest.take 233:=⟨_,rfl⟩
 obtain ⟨q2,hq2⟩:∃ x,x=rest.drop 233:=⟨_,rfl⟩
 have hq1l:q1.length≤233:=by rw [hq1,zLg];omega
 have hq2l:q2.length=rest.length-233:=by rw [hq2,zLf]
 rw [← hq1] at ht2 hr
 rw [← hq2] at hd2 hr
 clear hq1 hq2
 repeat' (first|refine yAH ?_;refine yCf (a2:=0) rfl rfl (by rfl) zO xS (Src.cells (i:=1) xS xC) (by rfl) zO xO zO zO rfl rfl (fun g5 c5=>?_)|refine yAF ?_;refine yAI rfl xF (by rfl) zO rfl (fun g3=>?_)|refine yEf ?_;refine yAa (yC4 (l:=[0]) rfl xS rfl) ?_|(refine yAQ ?_;first|refine yAa (yAT rfl rfl zO hd2) ?_|refine yAa (yBW rfl rfl zO ht2) ?_)|refine yMc ?_;refine yAa (yB1 rfl rfl hmin2) ?_|refine yWf ?_;refine yAa (yFO rfl rfl) ?_|refine yD3 ?_;refine yAa (yEq rfl rfl h0) ?_|refine xst ?_|refine xsa ?_;intro _|refine xsb ?_ ?_<;>intro _<;>try omega|refine xsc ?_|refine xdr 3 ySI ?_|refine xdr 8 ySJ ?_|refine xsd ?_ ?_|exact Rech.nil|fail)
 refine yAp ⟨(f',q2,acc++[0::q1],g5,c5),by dsimp only;rw [zLd];exact hr,by dsimp only;omega,by dsimp only;omega,by dsimp only;rw [zLa];show acc.length+1+f'≤_;omega⟩ (by show f'<f'+1;omega) ?_ ?_
 ·dsimp only
  rw [zLa]
  exact xB
 ·have em:acc.map strV++[strV (0::q1)]=(acc++[0::q1]).map strV:=by simp
  dsimp only
  rw [← em,zLa]
  exact (xN)
def yEi (at_:Int) (ver used:Nat):List (List UInt8)→Nat→Dsk→Bool × Dsk
 |[],_,D=>(true,D)
 |pc::rest,i,D=>if D.writeE (at_+(used:Nat)+(i:Nat)) (yAx (yAW ver (used+i):Nat) pc)≠0 then (false,D.writeD (at_+(used:Nat)+(i:Nat)) (yAx (yAW ver (used+i):Nat) pc))
  else yEi at_ ver used rest (i+1) (D.writeD (at_+(used:Nat)+(i:Nat)) (yAx (yAW ver (used+i):Nat) pc))
theorem yML (hE:ErrsOn L8 W E) (e17:W.cell? ⟨4,0,none⟩=some (yAr E 17)) (hN:NibAt W) (at_ n life:Int) (ver used:Nat) (r:List UInt8) (_:D.n≤65536) (hdn:yDW D life false=false) (hnb:0≤n∧n≤65536) (hu:(used:Int)≤n) (hl:r.length≤1048576) (hfit:yBQ r.length≤n-used) (hat:0≤at_∧at_≤65536) (hver:1≤ver∧ver≤1099511627776) (hul:D.und.length+65536<1073741823) :
 Ct prog W 49 [zPp g,strV r] [DiskP p D,yAi g [zPp p,.int .i64 at_,.int .i64 n,.int .i64 ver,.int .i64 used,.int .i64 life,.bool false] 164] (fun _:Unit=>yAr E (if (yEi at_ ver used (yCK r) 0 D).1 then 0 else 12))
  (fun _=>[DiskP p (yEi at_ ver used (yCK r) 0 D).2,yAi g [zPp p,.int .i64 at_,.int .i64 n,.int .i64 ver,.int .i64 (if (yEi at_ ver used (yCK r) 0 D).1 then (used:Int)+yBQ r.length else used),.int .i64 life,.bool (!(yEi at_ ver used (yCK r) 0 D).1)] 164]):=by
 have e12:W.cell? ⟨2,0,none⟩=some (yAr E 12):=hE.at_ 12 zX
 have _:=e17
 have c1:=ySH (W:=W) (p:=p) (g:=g) (D:=D) at_ n ver used life false
 rw [hdn] at c1
 have c2:=yOb (W:=W) (p:=p) (g:=g) at_ n ver used life false r.length zO hnb zO
 rw [show decide (0≤(r.length:Int)∧yBQ r.length≤n-used)=true from zY ⟨zO,hfit⟩] at c2
 have c3:=ySK (W:=W) r hl
 have c4:=yOa (W:=W) r.length zO
 have hL:=yCL r
 have hLe:=yLw r
 obtain ⟨co,hco⟩:∃ c,c=yBQ r.length:=⟨_,rfl⟩
 obtain ⟨ps,hps⟩:∃ ps,ps=yCK r:=⟨_,rfl⟩
 rw [← hco] at hL hfit c4 ⊢
 rw [← hps] at hL hLe c3 ⊢
 clear hco hps
 obtain ⟨res,hres⟩:∃ res,res=yEi at_ ver used ps 0 D:=⟨_,rfl⟩
 rw [← hres]
 refine Ct.enter func49 rfl ntmps49 zW (fun R=>?_)
 repeat' (first|(refine yAb ?_;first|refine xca c3 fun x=>?_|refine xca c2 fun _=>?_|refine xca c1 fun _=>?_)|refine xst ?_|refine xsa ?_;intro _|refine xsb ?_ ?_<;>intro _<;>try omega|refine xsc ?_|refine xdr 8 yPc ?_|refine xdr 10 yPd ?_|refine xdr 14 yPe ?_|refine xsd ?_ ?_|exact Rech.nil|fail)
 rename_i x
 refine yAz (fun i:{s:Nat × Dsk//yEi at_ ver used (ps.drop s.1) s.1 s.2=res∧s.1≤ps.length∧s.2.und.length≤D.und.length+s.1}=>[(0,zPp g),(1,strV r),(21,.slice (some ⟨x.1,0,none⟩) ps.length x.2),(22,.int .i64 (ps.length:Nat)),(23,.int .i64 (i.1.1:Nat))])
  (fun i=>[DiskP p i.1.2,yAi g [zPp p,.int .i64 at_,.int .i64 n,.int .i64 ver,.int .i64 used,.int .i64 life,.bool false] 164,yAP (.slice (some ⟨x.1,0,none⟩) ps.length x.2) 9 1 ps.length (ps.map strV)]++R) (fun i=>ps.length-i.1.1) ⟨(0,D),hres.symm,zLA _,Nat.le_refl _⟩ xB (xN) (fun ⟨(k,Dk),hr,hk,hu2⟩=>?_)
 dsimp only at hr hk hu2 ⊢
 by_cases hlt:k<ps.length
 rotate_left
 ·have hkl:k=ps.length:=by omega
  subst hkl
  rw [List.drop_length] at hr
  have ql:decide ((ps.length:Int)<(ps.length:Int))=false:=zZ zO
  have h1:res.1=true:=by rw [← hr];rfl
  have h2:res.2=Dk:=by rw [← hr];rfl
  rw [h1,h2]
  repeat' (first|refine yAb ?_;refine xca c4 fun _=>?_|refine yWf ?_;refine yAa (yAd (r:=(used:Int)+co) rfl rfl rfl zO) ?_|refine yFg ?_;refine yAa (yAc rfl rfl ql) ?_|refine xst ?_|refine xsa ?_;intro _|refine xsb ?_ ?_<;>intro _<;>try omega|refine xsc ?_|refine xdr 8 yPc ?_|refine xdr 10 yPd ?_|refine xdr 14 yPe ?_|refine xsd ?_ ?_|exact Rech.nil|exact xdn ()|fail)
 have ql:decide ((k:Int)<(ps.length:Int))=true:=zY zO
 obtain ⟨pc,hpc⟩:∃ pc,ps[k]? = some pc:=⟨_,zLb hlt⟩
 have hpl:=hLe pc (zLk hpc)
 have hdr:ps.drop k=pc::ps.drop (k+1):=by
  rw [List.drop_eq_getElem_cons hlt]
  congr 1
  exact (zLc.1 hpc).2
 have hget:(ps.map strV)[0+((k:Nat):Int).toNat*1]? = some (strV pc):=by rw [zLe,Nat.mul_one,zLq,zLE,hpc];rfl
 have hcast:((used+k:Nat):Int)=(used:Int)+(k:Int):=zO
 have c5:=yWt (W:=W) ver (used+k) hver zO
 have c6:=yLh hN (yAW ver (used+k):Nat) pc (by unfold yAW;omega) hpl
 have c7:=yK8 (W:=W) (p:=p) (D:=Dk) hE (at_+(used:Nat)+(k:Nat)) (yAx (yAW ver (used+k):Nat) pc) zO
 have hunf:yEi at_ ver used (pc::ps.drop (k+1)) k Dk=if Dk.writeE (at_+(used:Nat)+(k:Nat)) (yAx (yAW ver (used+k):Nat) pc)≠0 then (false,Dk.writeD (at_+(used:Nat)+(k:Nat)) (yAx (yAW ver (used+k):Nat) pc))
  else yEi at_ ver used (ps.drop (k+1)) (k+1) (Dk.writeD (at_+(used:Nat)+(k:Nat)) (yAx (yAW ver (used+k):Nat) pc)):=rfl
 rw [hdr,hunf] at hr
 have hu3:=yEp Dk (at_+(used:Nat)+(k:Nat)) (yAx (yAW ver (used+k):Nat) pc)
 obtain ⟨stm,hst⟩:∃ m,m=yAW ver (used+k):=⟨_,rfl⟩
 rw [← hst] at c5 c6 c7 hr hu3
 obtain ⟨raw,hraw⟩:∃ m,m=yAx (stm:Nat) pc:=⟨_,rfl⟩
 rw [← hraw] at c6 c7 hr hu3
 obtain ⟨D1,hD1⟩:∃ D1,D1=Dk.writeD (at_+(used:Nat)+(k:Nat)) raw:=⟨_,rfl⟩
 rw [← hD1] at c7 hr hu3
 obtain ⟨e,he⟩:∃ e,e=Dk.writeE (at_+(used:Nat)+(k:Nat)) raw:=⟨_,rfl⟩
 rw [← he] at c7 hr
 clear hst hraw hD1 he hunf hres hdr hpc
 by_cases hz:e=0
 ·subst hz
  rw [if_neg zW] at hr
  have c7':CtU prog W 105 [zPp p,.int .i64 (at_+(used:Nat)+(k:Nat)),strV raw] [DiskP p Dk] .nilIface [DiskP p D1]:=c7
  repeat' (first|(refine yAb ?_;first|refine xca c7' fun _=>?_|refine xca c6 fun _=>?_|refine xca c5 fun _=>?_)|refine yAj ?_;refine yAa (yC3 rfl xS hget) ?_|(refine yWf ?_;first|refine yAa (yAd (r:=((k+1:Nat):Int)) rfl rfl zO zO) ?_|refine yAa (yAd (r:=((used+k:Nat):Int)) rfl rfl hcast.symm zO) ?_)|refine yFg ?_;refine yAa (yAc rfl rfl ql) ?_|refine xst ?_|refine xsa ?_;intro _|refine xsb ?_ ?_<;>intro _<;>try omega|refine xsc ?_|refine xdr 8 yPc ?_|refine xdr 10 yPd ?_|refine xdr 14 yPe ?_|refine xsd ?_ ?_|exact Rech.nil|fail)
  all_goals exact yAp ⟨(k+1,D1),hr,by dsimp only;omega,by dsimp only;omega⟩ (by show ps.length-(k+1)<ps.length-k;omega) xB (xN)
 ·rw [if_pos hz] at hr
  have h1:res.1=false:=by rw [← hr]
  have h2:res.2=D1:=by rw [← hr]
  rw [h1,h2]
  obtain ⟨ea,hea⟩:=yCW (E:=E) hz
  rw [hea] at c7
  repeat' (first|(refine yAb ?_;first|refine xca c7 fun _=>?_|refine xca c6 fun _=>?_|refine xca c5 fun _=>?_)|(refine yAj ?_;first|refine yAa (yAn rfl e12) ?_|refine yAa (yC3 rfl xS hget) ?_)|(refine yWf ?_;first|refine yAa (yAd (r:=((k+1:Nat):Int)) rfl rfl zO zO) ?_|refine yAa (yAd (r:=((used+k:Nat):Int)) rfl rfl hcast.symm zO) ?_)|refine yFg ?_;refine yAa (yAc rfl rfl ql) ?_|refine xst ?_|refine xsa ?_;intro _|refine xsb ?_ ?_<;>intro _<;>try omega|refine xsc ?_|refine xdr 8 yPc ?_|refine xdr 10 yPd ?_|refine xdr 14 yPe ?_|refine xsd ?_ ?_|exact Rech.nil|exact xdn ()|fail)
end
def yCG (D:Dsk) (at_ n:Int) (ver i:Nat):Option (List UInt8):=if n≤(i:Int) then none else if D.readE (at_+(i:Nat))≠0 then none else yBU (yAW ver i:Nat) (D.readS (at_+(i:Nat)))
def yC1 (q:List UInt8):Nat→Int
 |0=>0
 |k+1=>bits .or .i64 (yC1 q k) (IntKind.i64.wrap (((q.getD (1+k) 0).toNat:Int)*2 ^ (min (8*(k:Int)).toNat IntKind.i64.bits)))
def yDX (D:Dsk) (at_ n:Int) (ver i:Nat) (size:Int):Nat→Nat→List UInt8→Option (List UInt8)
 |0,_,out=>some out
 |f+1,k,out=>match yCG D at_ n ver (i+k) with
  |none=>none
  |some q=>if (q.length:Int)≠1+min (size-out.length) 233 then none else if q.getD 0 0≠0 then none else yDX D at_ n ver i size f (k+1) (out++q.drop 1)
def yEF (D:Dsk) (at_ n:Int) (ver i:Nat):Option (List UInt8 × Int):=
 match yCG D at_ n ver i with
 |none=>none
 |some q=>if q.length<5 then none else if q.getD 0 0≠1 then none else if n-(i:Int)<yBQ (yC1 q 4) then none else if ((q.drop 5).length:Int)≠min (yC1 q 4) 229 then none else
  match yDX D at_ n ver i (yC1 q 4) (yBQ (yC1 q 4)-1).toNat 1 (q.drop 5) with
  |none=>none
  |some s=>some (s,yBQ (yC1 q 4))
def yEY (D:Dsk) (at_ n:Int) (ver:Nat):Nat→Nat→List (List UInt8)→List (List UInt8)
 |0,_,acc=>acc
 |f+1,i,acc=>match yEF D at_ n ver i with
  |none=>acc
  |some (s,u)=>yEY D at_ n ver f (i+u.toNat) (acc++[s])
theorem ySL (x:Int):-9223372036854775808≤IntKind.i64.wrap x∧IntKind.i64.wrap x≤9223372036854775807:=by
 have:IntKind.i64.wrap x=if x % 18446744073709551616≥9223372036854775808 then x % 18446744073709551616-18446744073709551616 else x % 18446744073709551616:=by
  simp [IntKind.wrap,IntKind.signed,IntKind.bits]
 rw [this]
 split <;> omega
theorem yMM (q:List UInt8) (k:Nat):-9223372036854775808≤yC1 q k∧yC1 q k≤9223372036854775807:=by
 cases k with
 |zero=>exact ⟨by show (-9223372036854775808:Int)≤0;omega,by show (0:Int)≤_;omega⟩
 |succ k=>
  show _≤bits .or .i64 _ _∧bits .or .i64 _ _≤_
  exact ySL _
theorem yFn {D:Dsk} {at_ n:Int} {ver i:Nat} {s:List UInt8} {u:Int} (h:yEF D at_ n ver i=some (s,u)):1≤u∧u≤n-(i:Int):=by
 unfold yEF at h
 split at h
 ·cases h
 split at h
 ·cases h
 split at h
 ·cases h
 split at h
 ·cases h
 split at h
 ·cases h
 split at h
 ·cases h
 rename_i q hq h5 h6 h1 h2 x s' hs'
 simp only [Option.some.injEq,Prod.mk.injEq] at h
 obtain ⟨-,rfl⟩:=h
 refine ⟨?_,zO⟩
 unfold yBQ
 split
 ·rw [zLf] at h2;omega
 split <;> omega
section
variable {W:World} {E:Nat→Addr} {p g:Nat} {D:Dsk}
theorem yKk (hE:ErrsOn L8 W E) (hN:NibAt W) (at_ n:Int) (ver i:Nat) (hat:0≤at_∧at_≤65536) (hn:n≤65536) (hver:1≤ver∧ver≤1099511627776) (hi:i≤131072):CtU prog W 166 [.agg #[zPp p,.int .i64 at_,.int .i64 n,.int .i64 (ver:Nat)],.int .i64 (i:Nat)] [DiskP p D] (.tuple #[strV ((yCG D at_ n ver i).getD []),.bool (yCG D at_ n ver i).isSome]) [DiskP p D]:=by
 by_cases h1:n≤(i:Int)
 ·have q1:decide (n≤(i:Int))=true:=zY h1
  rw [show yCG D at_ n ver i=none from if_pos h1]
  refine Ct.enter func166 rfl ntmps166 zW (fun R=>?_)
  repeat' (first|refine yA4 ?_;refine yA3 rfl xF rfl (fun g1=>?_)|refine yIR ?_;refine yAa (yAm rfl rfl q1) ?_|refine xst ?_|refine xsa ?_;intro _|refine xsb ?_ ?_<;>intro _<;>try omega|refine xsc ?_|exact xdn ()|fail)
 have q1:decide (n≤(i:Int))=false:=zZ h1
 have c1:=yWt (W:=W) ver i hver zO
 have c2:=yK7 (W:=W) (p:=p) (D:=D) hE (at_+(i:Nat))
 have c3:=yNS (W:=W) hN (yAW ver i:Nat) (D.readS (at_+(i:Nat)))
 obtain ⟨stm,hst⟩:∃ m,m=yAW ver i:=⟨_,rfl⟩
 rw [show yCG D at_ n ver i=_ from if_neg h1,← hst]
 rw [← hst] at c1 c3
 obtain ⟨raw,hraw⟩:∃ m,m=D.readS (at_+(i:Nat)):=⟨_,rfl⟩
 obtain ⟨e,he⟩:∃ m,m=D.readE (at_+(i:Nat)):=⟨_,rfl⟩
 rw [← hraw,← he]
 rw [← hraw] at c2 c3
 rw [← he] at c2
 clear hst hraw he
 by_cases hz:e=0
 ·subst hz
  rw [if_neg zW]
  have c2':CtU prog W 57 [zPp p,.int .i64 (at_+(i:Nat))] [DiskP p D] (.tuple #[strV raw,.nilIface]) [DiskP p D]:=c2
  refine Ct.enter func166 rfl ntmps166 zW (fun R=>?_)
  repeat' (first|refine yA4 ?_;refine yA3 rfl xF rfl (fun g1=>?_)|(refine yAb ?_;first|refine xca c3 fun _=>?_|refine xca c2' fun _=>?_|refine xca c1 fun _=>?_)|refine yIR ?_;refine yAa (yAm rfl rfl q1) ?_|refine xst ?_|refine xsa ?_;intro _|refine xsb ?_ ?_<;>intro _<;>try omega|refine xsc ?_|exact xdn ()|fail)
 ·rw [if_pos hz]
  obtain ⟨ea,hea⟩:=yCW (E:=E) hz
  rw [hea] at c2
  refine Ct.enter func166 rfl ntmps166 zW (fun R=>?_)
  repeat' (first|refine yA4 ?_;refine yA3 rfl xF rfl (fun g1=>?_)|(refine yAb ?_;first|refine xca c2 fun _=>?_|refine xca c1 fun _=>?_)|refine yIR ?_;refine yAa (yAm rfl rfl q1) ?_|refine xst ?_|refine xsa ?_;intro _|refine xsb ?_ ?_<;>intro _<;>try omega|refine xsc ?_|exact xdn ()|fail)
def xAN (o:Option (List UInt8 × Int)):Value:=match o with
 |none=>.tuple #[strV [],.int .i64 0,.bool false]
 |some (s,u)=>.tuple #[strV s,.int .i64 u,.bool true]
theorem ySM (hE:ErrsOn L8 W E) (hN:NibAt W) (at_ n:Int) (ver i:Nat) (hat:0≤at_∧at_≤65536) (hn:n≤65536) (hver:1≤ver∧ver≤1099511627776) (hi:(i:Int)≤n):CtU prog W 137 [.agg #[zPp p,.int .i64 at_,.int .i64 n,.int .i64 (ver:Nat)],.int .i64 (i:Nat)] [DiskP p D] (xAN (yEF D at_ n ver i)) [DiskP p D]:=by
 have c1:=yKk (p:=p) (D:=D) hE hN at_ n ver i hat hn hver zO
 have cp:=fun k (hk:(i:Int)+(k:Nat)≤131072)=>yKk (p:=p) (D:=D) hE hN at_ n ver (i+k) hat hn hver zO
 obtain ⟨res,hres⟩:∃ res,res=yEF D at_ n ver i:=⟨_,rfl⟩
 rw [← hres]
 unfold yEF at hres
 obtain ⟨o,ho⟩:∃ o,o=yCG D at_ n ver i:=⟨_,rfl⟩
 rw [← ho] at c1 hres
 clear ho
 cases o with
 |none=>
  subst hres
  have c1':CtU prog W 166 [.agg #[zPp p,.int .i64 at_,.int .i64 n,.int .i64 (ver:Nat)],.int .i64 (i:Nat)] [DiskP p D] (.tuple #[strV [],.bool false]) [DiskP p D]:=c1
  show Ct _ _ _ _ _ (fun _:Unit=>.tuple #[strV [],.int .i64 0,.bool false]) _
  refine Ct.enter func137 rfl ntmps137 zW (fun R=>?_)
  repeat' (first|refine yA4 ?_;refine yA3 rfl xF rfl (fun g2=>?_)|refine yAb ?_;refine xca c1' fun _=>?_|refine xst ?_|refine xsa ?_;intro _|refine xsb ?_ ?_<;>intro _<;>try omega|refine xsc ?_|exact xdn ()|fail)
 |some q=>
  dsimp only at hres
  have c1':CtU prog W 166 [.agg #[zPp p,.int .i64 at_,.int .i64 n,.int .i64 (ver:Nat)],.int .i64 (i:Nat)] [DiskP p D] (.tuple #[strV q,.bool true]) [DiskP p D]:=c1
  clear c1
  by_cases h5:q.length<5
  ·rw [if_pos h5] at hres
   subst hres
   have q5:decide ((q.length:Int)<5)=true:=zY zO
   show Ct _ _ _ _ _ (fun _:Unit=>.tuple #[strV [],.int .i64 0,.bool false]) _
   refine Ct.enter func137 rfl ntmps137 zW (fun R=>?_)
   repeat' (first|refine yA4 ?_;refine yA3 rfl xF rfl (fun g2=>?_)|refine yAb ?_;refine xca c1' fun _=>?_|refine yFg ?_;refine yAa (yAc rfl rfl q5) ?_|refine xst ?_|refine xsa ?_;intro _|refine xsb ?_ ?_<;>intro _<;>try omega|refine xsc ?_|exact xdn ()|fail)
  rw [if_neg h5] at hres
  have q5:decide ((q.length:Int)<5)=false:=zZ zO
  obtain ⟨c0,hc0⟩:∃ c,q[(0:Int).toNat]? = some c:=⟨_,zLb (by show 0<q.length;omega)⟩
  have hg0:q.getD 0 0=c0:=by rw [List.getD];rw [show q[0]? = some c0 from hc0];rfl
  rw [hg0] at hres
  by_cases h6:c0=1
  rotate_left
  ·rw [if_pos h6] at hres
   subst hres
   have h6':((c0.toNat:Nat):Int)≠1:=by
    intro e
    apply h6
    apply UInt8.toNat_inj.1
    show c0.toNat=1
    omega
   show Ct _ _ _ _ _ (fun _:Unit=>.tuple #[strV [],.int .i64 0,.bool false]) _
   refine Ct.enter func137 rfl ntmps137 zW (fun R=>?_)
   repeat' (first|refine yA4 ?_;refine yA3 rfl xF rfl (fun g2=>?_)|refine yAb ?_;refine xca c1' fun _=>?_|refine yOV ?_;refine yAa (yAk rfl rfl zO hc0) ?_|refine yD3 ?_;refine yAa (yA0 rfl rfl h6') ?_|refine yFg ?_;refine yAa (yAc rfl rfl q5) ?_|refine xst ?_|refine xsa ?_;intro _|refine xsb ?_ ?_<;>intro _<;>try omega|refine xsc ?_|exact xdn ()|fail)
  rw [if_neg (by simpa using h6)] at hres
  have h6':((c0.toNat:Nat):Int)=1:=by rw [h6];rfl
  refine Ct.enter func137 rfl ntmps137 zW (fun R=>?_)
  repeat' (first|refine yA4 ?_;refine yA3 rfl xF rfl (fun g2=>?_)|refine yAb ?_;refine xca c1' fun _=>?_|refine yOV ?_;refine yAa (yAk rfl rfl zO hc0) ?_|refine yD3 ?_;refine yAa (yAv rfl rfl h6') ?_|refine yFg ?_;refine yAa (yAc rfl rfl q5) ?_|refine xst ?_|refine xsa ?_;intro _|refine xsb ?_ ?_<;>intro _<;>try omega|refine xsc ?_|fail)
  refine yAz (fun k:{k:Nat//k≤4}=>[(1,.int .i64 (i:Nat)),(2,zPp g2),(7,strV q),(9,.int .i64 (yC1 q k.1)),(32,.int .i64 (k.1:Nat))]) (fun _=>[DiskP p D,yAi g2 [zPp p,.int .i64 at_,.int .i64 n,.int .i64 (ver:Nat)] 162]++R) (fun k=>4-k.1) ⟨0,zO⟩ xB (xN) (fun ⟨k,hk⟩=>?_)
  dsimp only
  by_cases hlt:k<4
  ·have ql:decide ((k:Int)<4)=true:=zY zO
   obtain ⟨c,hc⟩:∃ c,q[((k+1:Nat):Int).toNat]? = some c:=⟨_,zLb zO⟩
   have hgc:q.getD (1+k) 0=c:=by
    rw [show ((k+1:Nat):Int).toNat=1+k by omega] at hc
    rw [List.getD,hc];rfl
   have hcb:=zLy c
   obtain ⟨sh,hsh⟩:∃ sh,IntKind.i64.wrap ((c.toNat:Int)*2 ^ (min (8*(k:Int)).toNat IntKind.i64.bits))=sh:=⟨_,rfl⟩
   have hor:bits .or .i64 (yC1 q k) sh=yC1 q (k+1):=by rw [← hsh,← hgc];rfl
   repeat' (first|refine yEf ?_;refine yAa (yB6 rfl zO) ?_|refine yOV ?_;refine yAa (yAk rfl rfl zO hc) ?_|refine yWf ?_;refine yAa (yAd (r:=((k+1:Nat):Int)) rfl rfl zO zO) ?_|refine yYZ ?_;refine yAa (yXy rfl rfl hor) ?_|refine yY0 ?_;refine yAa (yLv rfl rfl zO hsh) ?_|refine yFg ?_;refine yAa (yAc rfl rfl ql) ?_|refine xst ?_|refine xsa ?_;intro _|refine xsb ?_ ?_<;>intro _<;>try omega|refine xsc ?_|fail)
   all_goals exact yAp ⟨k+1,zO⟩ (by show 4-(k+1)<4-k;omega) xB (xN)
  have hk4:k=4:=zO
  subst hk4
  have ql:decide (((4:Nat):Int)<4)=false:=zX
  have hsz:=yMM q 4
  obtain ⟨size,hsize⟩:∃ s,s=yC1 q 4:=⟨_,rfl⟩
  rw [← hsize] at hsz hres ⊢
  clear hsize
  have c2:=yOa (W:=W) size hsz.2
  have hcost:yBQ size=if size<0 then 0 else if size≤229 then 1 else 2+(size-230) / 233:=rfl
  obtain ⟨need,hneed⟩:∃ m,m=yBQ size:=⟨_,rfl⟩
  rw [← hneed] at c2 hres hcost
  clear hneed
  obtain ⟨q5',hq5⟩:∃ x,q.drop (5:Int).toNat=x:=⟨_,rfl⟩
  rw [show q.drop 5=q5' from hq5] at hres
  have hq5l:q5'.length=q.length-5:=by rw [← hq5];exact zLf
  by_cases h7:n-(i:Int)<need
  ·rw [if_pos h7] at hres
   subst hres
   have q7:decide (n-(i:Int)<need)=true:=zY h7
   repeat' (first|refine yAb ?_;refine xca c2 fun _=>?_|refine yGH ?_;refine yG3 rfl rfl (fun g3 c3=>?_)|refine yAQ ?_;refine yAa (yAT rfl rfl zO hq5) ?_|refine yFg ?_;refine yAa (yAc rfl rfl ql) ?_|refine yF5 ?_;refine yAa (yAe rfl rfl q7) ?_|refine xst ?_|refine xsa ?_;intro _|refine xsb ?_ ?_<;>intro _<;>try omega|refine xsc ?_|exact xdn ()|fail)
  rw [if_neg h7] at hres
  have q7:decide (n-(i:Int)<need)=false:=zZ h7
  obtain ⟨mn,hmn⟩:∃ m,min size 229=m:=⟨_,rfl⟩
  rw [hmn] at hres
  by_cases h8:(q5'.length:Int)=mn
  rotate_left
  ·rw [if_pos h8] at hres
   subst hres
   repeat' (first|refine yAb ?_;refine xca c2 fun _=>?_|refine yGH ?_;refine yG3 rfl rfl (fun g3 c3=>?_)|refine yAQ ?_;refine yAa (yAT rfl rfl zO hq5) ?_|refine yMc ?_;refine yAa (yB1 rfl rfl hmn) ?_|refine yD3 ?_;refine yAa (yA0 rfl rfl h8) ?_|refine yFg ?_;refine yAa (yAc rfl rfl ql) ?_|refine yF5 ?_;refine yAa (yAe rfl rfl q7) ?_|refine xst ?_|refine xsa ?_;intro _|refine xsb ?_ ?_<;>intro _<;>try omega|refine xsc ?_|exact xdn ()|fail)
  rw [if_neg (by simpa using h8)] at hres
  have hs0:0≤size:=zO
  have hs1:size≤16777216:=by split at hcost <;> omega
  obtain ⟨ro,hro⟩:∃ ro,ro=yDX D at_ n ver i size (need-1).toNat 1 q5':=⟨_,rfl⟩
  rw [← hro] at hres
  repeat' (first|refine yAb ?_;refine xca c2 fun _=>?_|refine yGH ?_;refine yG3 rfl rfl (fun g3 c3=>?_)|refine yAQ ?_;refine yAa (yAT rfl rfl zO hq5) ?_|refine yMc ?_;refine yAa (yB1 rfl rfl hmn) ?_|refine yD3 ?_;refine yAa (yAv rfl rfl h8) ?_|refine yFg ?_;refine yAa (yAc rfl rfl ql) ?_|refine yF5 ?_;refine yAa (yAe rfl rfl q7) ?_|refine xst ?_|refine xsa ?_;intro _|refine xsb ?_ ?_<;>intro _<;>try omega|refine xsc ?_|fail)
  refine yAz (fun k:{s:Nat × Nat × List UInt8 × Nat × Nat//yDX D at_ n ver i size s.1 s.2.1 s.2.2.1=ro∧(s.1:Int)+s.2.1=max need 1∧1≤s.2.1∧(s.2.2.1.length:Int)=min size (229+233*((s.2.1:Int)-1))}=>[(1,.int .i64 (i:Nat)),(2,zPp g2),(9,.int .i64 size),(11,.int .i64 need),(12,.slice (some ⟨k.1.2.2.2.1,0,none⟩) k.1.2.2.1.length k.1.2.2.2.2),(13,.int .i64 (k.1.2.1:Nat))])
   (fun k=>[DiskP p D,yAi g2 [zPp p,.int .i64 at_,.int .i64 n,.int .i64 (ver:Nat)] 162,yLt k.1.2.2.2.1 k.1.2.2.1.length k.1.2.2.2.2 k.1.2.2.1 5]++R) (fun k=>k.1.1) ⟨((need-1).toNat,1,q5',g3,c3),hro.symm,by dsimp only;omega,by dsimp only;omega,by dsimp only;omega⟩ xB (xN) (fun ⟨(fu,k,out,g4,c4),hr,hfk,hk1,hol⟩=>?_)
  dsimp only at hr hfk hk1 hol ⊢
  by_cases hlt2:(k:Int)<need
  rotate_left
  ·have qk:decide ((k:Int)<need)=false:=zZ hlt2
   have hfu:fu=0:=zO
   subst hfu
   have hr2:ro=some out:=by rw [← hr];rfl
   rw [hr2] at hres
   subst hres
   repeat' (first|refine yEf ?_;refine yAa (yEQ rfl xS) ?_|refine yFg ?_;refine yAa (yAc rfl rfl qk) ?_|refine xst ?_|refine xsa ?_;intro _|refine xsb ?_ ?_<;>intro _<;>try omega|refine xsc ?_|exact xdn ()|fail)
  have qk:decide ((k:Int)<need)=true:=zY hlt2
  obtain ⟨fu',rfl⟩:∃ f',fu=f'+1:=⟨fu-1,zO⟩
  have hout:(out.length:Int)=229+233*((k:Int)-1)∧(out.length:Int)<size:=by split at hcost <;> omega
  have c6:=cp k zO
  have hunf:yDX D at_ n ver i size (fu'+1) k out=match yCG D at_ n ver (i+k) with
   |none=>none
   |some q=>if (q.length:Int)≠1+min (size-out.length) 233 then none else if q.getD 0 0≠0 then none else yDX D at_ n ver i size fu' (k+1) (out++q.drop 1):=rfl
  rw [hunf] at hr
  clear hunf
  obtain ⟨o2,ho2⟩:∃ o,o=yCG D at_ n ver (i+k):=⟨_,rfl⟩
  rw [← ho2] at c6 hr
  clear ho2
  cases o2 with
  |none=>
   have hr2:ro=none:=by rw [← hr]
   rw [hr2] at hres
   subst hres
   have c6':CtU prog W 166 [.agg #[zPp p,.int .i64 at_,.int .i64 n,.int .i64 (ver:Nat)],.int .i64 ((i+k:Nat):Int)] [DiskP p D] (.tuple #[strV [],.bool false]) [DiskP p D]:=c6
   repeat' (first|refine yAb ?_;refine xca c6' fun _=>?_|refine yWf ?_;refine yAa (yAd (r:=((i+k:Nat):Int)) rfl rfl zO zO) ?_|refine yFg ?_;refine yAa (yAc rfl rfl qk) ?_|refine xst ?_|refine xsa ?_;intro _|refine xsb ?_ ?_<;>intro _<;>try omega|refine xsc ?_|exact xdn ()|fail)
  |some q2=>
   dsimp only at hr
   have c6':CtU prog W 166 [.agg #[zPp p,.int .i64 at_,.int .i64 n,.int .i64 (ver:Nat)],.int .i64 ((i+k:Nat):Int)] [DiskP p D] (.tuple #[strV q2,.bool true]) [DiskP p D]:=c6
   obtain ⟨m2,hm2⟩:∃ m,min (size-(out.length:Int)) 233=m:=⟨_,rfl⟩
   rw [hm2] at hr
   by_cases h9:(q2.length:Int)=1+m2
   rotate_left
   ·rw [if_pos h9] at hr
    have hr2:ro=none:=by rw [← hr]
    rw [hr2] at hres
    subst hres
    repeat' (first|refine yAb ?_;refine xca c6' fun _=>?_|refine yMc ?_;refine yAa (yB1 rfl rfl hm2) ?_|refine yWf ?_;refine yAa (yAd (r:=((i+k:Nat):Int)) rfl rfl zO zO) ?_|refine yD3 ?_;refine yAa (yA0 rfl rfl h9) ?_|refine yFg ?_;refine yAa (yAc rfl rfl qk) ?_|refine xst ?_|refine xsa ?_;intro _|refine xsb ?_ ?_<;>intro _<;>try omega|refine xsc ?_|exact xdn ()|fail)
   rw [if_neg (by simpa using h9)] at hr
   obtain ⟨d0,hd0⟩:∃ c,q2[(0:Int).toNat]? = some c:=⟨_,zLb (by show 0<q2.length;omega)⟩
   have hgd:q2.getD 0 0=d0:=by rw [List.getD];rw [show q2[0]? = some d0 from hd0];rfl
   rw [hgd] at hr
   by_cases h10:d0=0
   rotate_left
   ·rw [if_pos h10] at hr
    have hr2:ro=none:=by rw [← hr]
    rw [hr2] at hres
    subst hres
    have h10':((d0.toNat:Nat):Int)≠0:=by
     intro e
     apply h10
     apply UInt8.toNat_inj.1
     show d0.toNat=0
     omega
    repeat' (first|refine yAb ?_;refine xca c6' fun _=>?_|refine yOV ?_;refine yAa (yAk rfl rfl zO hd0) ?_|refine yMc ?_;refine yAa (yB1 rfl rfl hm2) ?_|refine yWf ?_;refine yAa (yAd (r:=((i+k:Nat):Int)) rfl rfl zO zO) ?_|(refine yD3 ?_;first|refine yAa (yA0 rfl rfl h10') ?_|refine yAa (yAv rfl rfl h9) ?_)|refine yFg ?_;refine yAa (yAc rfl rfl qk) ?_|refine xst ?_|refine xsa ?_;intro _|refine xsb ?_ ?_<;>intro _<;>try omega|refine xsc ?_|exact xdn ()|fail)
   rw [if_neg (by simpa using h10)] at hr
   have h10':((d0.toNat:Nat):Int)=0:=by rw [h10];rfl
   obtain ⟨q3,hq3⟩:∃ x,q2.drop (1:Int).toNat=x:=⟨_,rfl⟩
   rw [show q2.drop 1=q3 from hq3] at hr
   have hq3l:q3.length=q2.length-1:=by rw [← hq3];exact zLf
   repeat' (first|refine yAb ?_;refine xca c6' fun _=>?_|refine yAH ?_;refine yEb rfl rfl xS zO rfl (fun g5 c5=>?_)|refine yOV ?_;refine yAa (yAk rfl rfl zO hd0) ?_|refine yAQ ?_;refine yAa (yAT rfl rfl zO hq3) ?_|refine yMc ?_;refine yAa (yB1 rfl rfl hm2) ?_|(refine yWf ?_;first|refine yAa (yAd (r:=((k+1:Nat):Int)) rfl rfl zO zO) ?_|refine yAa (yAd (r:=((i+k:Nat):Int)) rfl rfl zO zO) ?_)|(refine yD3 ?_;first|refine yAa (yAv rfl rfl h10') ?_|refine yAa (yAv rfl rfl h9) ?_)|refine yFg ?_;refine yAa (yAc rfl rfl qk) ?_|refine xst ?_|refine xsa ?_;intro _|refine xsb ?_ ?_<;>intro _<;>try omega|refine xsc ?_|fail)
   refine yAp ⟨(fu',k+1,out++q3,g5,c5),hr,by dsimp only;omega,by dsimp only;omega,by dsimp only;rw [zLa];split at hcost <;> omega⟩ (by show fu'<fu'+1;omega) ?_ ?_
   ·dsimp only
    rw [zLa]
    exact xB
   ·dsimp only
    rw [zLa]
    exact (xN)
theorem yG4 (hE:ErrsOn L8 W E) (hN:NibAt W) (at_ n:Int) (ver:Nat) (hn2:D.n≤65536) (ho:D.off=false) (h:yMJ D at_ n ver):Ct prog W 92 [zPp p,.int .i64 at_,.int .i64 n,.int .i64 (ver:Nat)] [DiskP p D]
 (fun v:Value=>.tuple #[v,.nilIface]) (fun v=>[DiskP p D,yAP v 9 1 (yEY D at_ n ver (n.toNat+1) 0 []).length ((yEY D at_ n ver (n.toNat+1) 0 []).map strV)]):=by
 have c1:=yPb (W:=W) (p:=p) hn2 ho at_ n (ver:Nat) h
 obtain ⟨h1,h2,h3,h4,h5,h6,h7⟩:=h
 obtain ⟨res,hres⟩:∃ res,res=yEY D at_ n ver (n.toNat+1) 0 []:=⟨_,rfl⟩
 rw [← hres]
 have cr:=fun i (hi:((i:Nat):Int)≤n)=>ySM (W:=W) (p:=p) (D:=D) hE hN at_ n ver i zO h5 zO hi
 refine Ct.enter func92 rfl ntmps92 zW (fun R=>?_)
 repeat' (first|refine yAb ?_;refine xca c1 fun _=>?_|refine yAB ?_;refine yAa (yAC xV xW) ?_|refine xst ?_|refine xsa ?_;intro _|refine xsb ?_ ?_<;>intro _<;>try omega|refine xsc ?_|fail)
 refine KJ.row0 (e:=9) (sz:=1) ?_
 rename_i gl _
 refine yAz (fun k:{s:Nat × Nat × List (List UInt8) × Value//yEY D at_ n ver s.1 s.2.1 s.2.2.1=res∧(s.2.1:Int)≤n∧n+1≤(s.1:Int)+s.2.1∧s.2.2.1.length≤s.2.1}=>[(10,zPp gl),(12,k.1.2.2.2),(13,.int .i64 (k.1.2.1:Nat))])
  (fun k=>[DiskP p D,yAi gl [zPp p,.int .i64 at_,.int .i64 n,.int .i64 (ver:Nat)] 162,yAP k.1.2.2.2 9 1 k.1.2.2.1.length (k.1.2.2.1.map strV)]++R) (fun k=>k.1.1) ⟨(n.toNat+1,0,[],.slice none 0 0),hres.symm,by dsimp only;omega,by dsimp only;omega,Nat.le_refl _⟩ xB (xN) (fun ⟨(f,i,acc,v),hr,hin,hfi,hal⟩=>?_)
 dsimp only at hr hin hfi hal ⊢
 obtain ⟨f',rfl⟩:∃ f',f=f'+1:=⟨f-1,zO⟩
 have hunf:yEY D at_ n ver (f'+1) i acc=match yEF D at_ n ver i with
  |none=>acc
  |some (s,u)=>yEY D at_ n ver f' (i+u.toNat) (acc++[s]):=rfl
 rw [hunf] at hr
 clear hunf
 have c2:=cr i hin
 have hrs:=fun s u=>yFn (D:=D) (at_:=at_) (n:=n) (ver:=ver) (i:=i) (s:=s) (u:=u)
 obtain ⟨o,ho⟩:∃ o,o=yEF D at_ n ver i:=⟨_,rfl⟩
 rw [← ho] at c2 hr
 simp only [← ho] at hrs
 clear ho
 cases o with
 |none=>
  have hr2:acc=res:=hr
  subst hr2
  have c2':CtU prog W 137 [.agg #[zPp p,.int .i64 at_,.int .i64 n,.int .i64 (ver:Nat)],.int .i64 (i:Nat)] [DiskP p D] (.tuple #[strV [],.int .i64 0,.bool false]) [DiskP p D]:=c2
  repeat' (first|refine yAb ?_;refine xca c2' fun _=>?_|refine xst ?_|refine xsa ?_;intro _|refine xsb ?_ ?_<;>intro _<;>try omega|refine xsc ?_|fail)
  all_goals (exact xdn v)
 |some su=>
  obtain ⟨s,u⟩:=su
  dsimp only at hr
  obtain ⟨hu1,hu2⟩:=hrs s u rfl
  obtain ⟨un,rfl⟩:∃ un:Nat,u=(un:Int):=⟨u.toNat,zO⟩
  rw [zLe] at hr
  have c2':CtU prog W 137 [.agg #[zPp p,.int .i64 at_,.int .i64 n,.int .i64 (ver:Nat)],.int .i64 (i:Nat)] [DiskP p D] (.tuple #[strV s,.int .i64 (un:Nat),.bool true]) [DiskP p D]:=c2
  repeat' (first|refine yAb ?_;refine xca c2' fun _=>?_|refine yAH ?_;refine yCf (a2:=0) rfl rfl (by rfl) zO xS (Src.cells (i:=1) xS xC) (by rfl) zO xO zO zO rfl rfl (fun g5 c5=>?_)|refine yAF ?_;refine yAI rfl xF (by rfl) zO rfl (fun g3=>?_)|refine yWf ?_;refine yAa (yAd (r:=((i+un:Nat):Int)) rfl rfl zO zO) ?_|refine xst ?_|refine xsa ?_;intro _|refine xsb ?_ ?_<;>intro _<;>try omega|refine xsc ?_|fail)
  refine yAp ⟨(f',i+un,acc++[s],.slice (some ⟨g5,0,none⟩) (acc.length+1) c5),hr,by dsimp only;omega,by dsimp only;omega,by dsimp only;rw [zLa];show acc.length+1≤_;omega⟩ (by show f'<f'+1;omega) xB ?_
  have em:acc.map strV++[strV s]=(acc++[s]).map strV:=zW
  dsimp only
  rw [← em,zLa]
  exact (xN)
end
theorem yVe (s v j:Nat) (hv:v<s):∃ w,w≤s∧∀ i,i<8→yCs (w:Int) i=if i<j then yCs (s:Int) i else yCs (v:Int) i:=by
 obtain ⟨B,hB⟩:∃ B,B=2 ^ (8*j):=⟨_,rfl⟩
 have hBp:0<B:=by rw [hB];exact Nat.two_pow_pos _
 have hr:s % B<B:=Nat.mod_lt _ hBp
 refine ⟨B*(v / B)+s % B,?_,fun i hi=>?_⟩
 ·have h1:=Nat.div_le_div_right (c:=B) (Nat.le_of_lt hv)
  have h2:=Nat.div_add_mod s B
  have h3:=Nat.mul_le_mul_left B h1
  omega
 ·apply UInt8.toNat_inj.1
  split
  ·rename_i hlt
   obtain ⟨e,he⟩:∃ e,j=i+1+e:=⟨j-i-1,zO⟩
   rw [yCo _ _ hi,yCo _ _ hi]
   obtain ⟨A,hA⟩:∃ A,A=2 ^ (8*i):=⟨_,rfl⟩
   obtain ⟨C,hC⟩:∃ C,C=2 ^ (8*e):=⟨_,rfl⟩
   have hAp:0<A:=by rw [hA];exact Nat.two_pow_pos _
   have hB2:B=A*(256*C):=by
    rw [hB,hA,hC,he,show 8*(i+1+e)=8*i+(8+8*e) by omega,Nat.pow_add,Nat.pow_add]
   have k:∀ q r,(B*q+r) / A % 256=r / A % 256:=by
    intro q r
    rw [hB2,Nat.mul_assoc,Nat.mul_add_div hAp,Nat.mul_assoc,Nat.mul_add_mod]
   rw [← hA,k]
   have:=k (s / B) (s % B)
   rw [Nat.div_add_mod] at this
   exact this.symm
  ·obtain ⟨e,he⟩:∃ e,i=j+e:=⟨i-j,zO⟩
   rw [yCo _ _ hi,yCo _ _ hi]
   have e2:2 ^ (8*i)=B*2 ^ (8*e):=by rw [hB,he,Nat.mul_add,Nat.pow_add]
   rw [e2,← Nat.div_div_eq_div_mul,← Nat.div_div_eq_div_mul,Nat.mul_add_div hBp,Nat.div_eq_of_lt hr,zLz]
theorem yQu (stamp:Int):∀ (f a:Nat) (v:List UInt8),(pcs stamp f a v).length≤yGx v.length:=by
 intro f
 induction f with
 |zero=>intro a v;simp [pcs]
 |succ f ih=>
  intro a v
  by_cases hv:v=[]
  ·rw [hv,yN8];simp
  ·rw [yG2 _ _ _ _ hv,zLj]
   have h:=ih (a+1) (v.drop 234)
   have hp:=zLv.2 hv
   rw [zLf] at h
   unfold yGx at h ⊢
   omega
theorem yVf:yCt ((zs 256).drop 248) 8=0:=zK
theorem yCi (q:List UInt8) (k x:Nat) (hk:k<4) (hx:x<2 ^ (8*k)) (h:yC1 q k=(x:Int)):yC1 q (k+1)=((x+(q.getD (1+k) 0).toNat*2 ^ (8*k):Nat):Int):=by
 obtain ⟨c,hc⟩:∃ c,c=q.getD (1+k) 0:=⟨_,rfl⟩
 have hcb:=zLy c
 have hm:min (8*(k:Int)).toNat IntKind.i64.bits=8*k:=by
  show min (8*(k:Int)).toNat 64=8*k
  omega
 have hp:(2:Nat) ^ (8*k)≤2 ^ 24:=Nat.pow_le_pow_right zO zO
 have hp0:=Nat.two_pow_pos (8*k)
 have hcp:c.toNat*2 ^ (8*k)≤255*2 ^ 24:=Nat.mul_le_mul zO hp
 show bits .or .i64 (yC1 q k) (IntKind.i64.wrap (((q.getD (1+k) 0).toNat:Int)*2 ^ (min (8*(k:Int)).toNat IntKind.i64.bits)))=_
 rw [h,hm,← hc]
 have e2:((c.toNat:Int)*2 ^ (8*k))=((c.toNat*2 ^ (8*k):Nat):Int):=zW
 obtain ⟨y,hy⟩:∃ y,y=c.toNat*2 ^ (8*k):=⟨_,rfl⟩
 have hor:x ||| y=x+y:=by
  rw [hy,Nat.or_comm,Nat.mul_comm,← Nat.two_pow_add_eq_or_of_lt hx,Nat.add_comm]
 rw [e2,← hy]
 rw [← hy] at hcp
 rw [yCF (y:Int) zO]
 have e:bits .or .i64 (x:Int) (y:Int)=IntKind.i64.wrap ((BitVec.ofInt 64 (x:Int) ||| BitVec.ofInt 64 (y:Int)).toNat:Int):=rfl
 have b1:(BitVec.ofInt 64 (x:Int)).toNat=x:=by rw [BitVec.toNat_ofInt];omega
 have b2:(BitVec.ofInt 64 (y:Int)).toNat=y:=by rw [BitVec.toNat_ofInt];omega
 rw [e,BitVec.toNat_or,b1,b2,hor]
 exact yCF _ zO
theorem yOc (L:Nat) (hL:L<2147483648) (x:List UInt8):yC1 (yEu L++x) 4=(L:Int):=by
 have g0:((yEu L++x).getD (1+0) 0).toNat=L % 256:=by show (UInt8.ofNat (L % 256)).toNat=_;rw [UInt8.toNat_ofNat'];omega
 have g1:((yEu L++x).getD (1+1) 0).toNat=L / 256 % 256:=by show (UInt8.ofNat (L / 256 % 256)).toNat=_;rw [UInt8.toNat_ofNat'];omega
 have g2:((yEu L++x).getD (1+2) 0).toNat=L / 65536 % 256:=by show (UInt8.ofNat (L / 65536 % 256)).toNat=_;rw [UInt8.toNat_ofNat'];omega
 have g3:((yEu L++x).getD (1+3) 0).toNat=L / 16777216 % 256:=by show (UInt8.ofNat (L / 16777216 % 256)).toNat=_;rw [UInt8.toNat_ofNat'];omega
 have s0:=yCi (yEu L++x) 0 0 zO zX rfl
 rw [g0] at s0
 have s1:=yCi (yEu L++x) 1 (0+L % 256*2 ^ (8*0)) zO zO s0
 rw [g1] at s1
 have s2:=yCi (yEu L++x) 2 (0+L % 256*2 ^ (8*0)+L / 256 % 256*2 ^ (8*1)) zO zO s1
 rw [g2] at s2
 have s3:=yCi (yEu L++x) 3 (0+L % 256*2 ^ (8*0)+L / 256 % 256*2 ^ (8*1)+L / 65536 % 256*2 ^ (8*2)) zO zO s2
 rw [g3] at s3
 rw [s3]
 omega
section
variable {D:Dsk} {at_ n:Int} {ver:Nat}
theorem yQv (i:Nat) (L:Int):∀ (f:Nat) (l:List UInt8) (k:Nat) (out:List UInt8),l.length≤233*f→(out.length:Int)+l.length=L→
 (∀ j p,(yBi f l)[j]? = some p→yCG D at_ n ver (i+k+j)=some p∨yCG D at_ n ver (i+k+j)=none)→
 (yDX D at_ n ver i L (yBi f l).length k out=some (out++l)∧∀ j,j<(yBi f l).length→(yCG D at_ n ver (i+k+j)).isSome=true)∨
 (yDX D at_ n ver i L (yBi f l).length k out=none∧∃ j,j<(yBi f l).length∧yCG D at_ n ver (i+k+j)=none):=by
 intro f
 induction f with
 |zero=>
  intro l k out hl _ _
  have:l=[]:=List.length_eq_zero_iff.1 zO
  subst this
  exact .inl ⟨by simp [yBi,yDX],fun j hj=>by simp [yBi] at hj⟩
 |succ f ih=>
  intro l k out hl hL hp
  by_cases h0:l=[]
  ·subst h0
   rw [yCh]
   exact .inl ⟨by simp [yDX],fun j hj=>by simp at hj⟩
  have hpos:=zLv.2 h0
  rw [yBY _ _ h0] at hp ⊢
  rw [zLj]
  have hunf:yDX D at_ n ver i L ((yBi f (l.drop 233)).length+1) k out=match yCG D at_ n ver (i+k) with
   |none=>none
   |some q=>if (q.length:Int)≠1+min (L-out.length) 233 then none else if q.getD 0 0≠0 then none else yDX D at_ n ver i L (yBi f (l.drop 233)).length (k+1) (out++q.drop 1):=rfl
  rw [hunf]
  clear hunf
  have hh:=hp 0 (0::l.take 233) rfl
  rw [zLz] at hh
  rcases hh with hh|hh
  ·rw [hh]
   dsimp only
   rw [if_neg (by rw [zLj,zLg];omega),if_neg zW]
   have:=ih (l.drop 233) (k+1) (out++l.take 233) (by rw [zLf];omega) (by rw [zLa,zLf,zLg];omega) (fun j p hj=>by
    have:=hp (j+1) p (by simpa using hj)
    rwa [show i+k+(j+1)=i+(k+1)+j by omega] at this)
   rw [zLd,zLu] at this
   rcases this with ⟨a,b⟩|⟨a,j,b,c⟩
   ·refine .inl ⟨a,fun j hj=>?_⟩
    cases j with
    |zero=>rw [zLz,hh];rfl
    |succ j=>
     have:=b j zO
     rwa [show i+(k+1)+j=i+k+(j+1) by omega] at this
   ·exact .inr ⟨a,j+1,zO,by rw [show i+k+(j+1)=i+(k+1)+j by omega];exact c⟩
  ·rw [hh]
   exact .inr ⟨rfl,0,zO,by rw [zLz];exact hh⟩
theorem ySN (i:Nat) (r:List UInt8) (hr:r.length<2147483648) (hp:∀ j p,(yCK r)[j]? = some p→yCG D at_ n ver (i+j)=some p∨yCG D at_ n ver (i+j)=none) (hn:(i:Int)+(yCK r).length≤n) :
 (yEF D at_ n ver i=some (r,((yCK r).length:Int))∧∀ j,j<(yCK r).length→(yCG D at_ n ver (i+j)).isSome=true)∨(yEF D at_ n ver i=none∧∃ j,j<(yCK r).length∧yCG D at_ n ver (i+j)=none):=by
 have hL:=yCL r
 have hlen:(yCK r).length=(yBi r.length (r.drop 229)).length+1:=rfl
 have hh:=hp 0 (yEu r.length++r.take 229) rfl
 rw [zLz] at hh
 unfold yEF
 rcases hh with hh|hh
 ·rw [hh]
  dsimp only
  have hql:(yEu r.length++r.take 229).length=5+min 229 r.length:=by rw [zLa,zLg];rfl
  have hdr:(yEu r.length++r.take 229).drop 5=r.take 229:=rfl
  rw [yOc _ hr,if_neg zO,if_neg (by show ¬ ((1:UInt8)≠1);simp),if_neg (by rw [← hL];omega),hdr,if_neg (by rw [zLg];omega)]
  have hfu:(yBQ (r.length:Nat)-1).toNat=(yBi r.length (r.drop 229)).length:=by rw [← hL,hlen];omega
  rw [hfu]
  have:=yQv (D:=D) (at_:=at_) (n:=n) (ver:=ver) i (r.length:Int) r.length (r.drop 229) 1 (r.take 229) (by rw [zLf];omega) (by rw [zLf,zLg];omega) (fun j p hj=>by
   have:=hp (j+1) p (by unfold yCK;simpa using hj)
   rwa [show i+(j+1)=i+1+j by omega] at this)
  rw [zLu] at this
  rcases this with ⟨a,b⟩|⟨a,j,b,c⟩
  ·rw [a]
   refine .inl ⟨by dsimp only;rw [hL],fun j hj=>?_⟩
   cases j with
   |zero=>rw [zLz,hh];rfl
   |succ j=>
    have:=b j zO
    rwa [show i+1+j=i+(j+1) by omega] at this
  ·rw [a]
   exact .inr ⟨rfl,j+1,zO,by rw [show i+(j+1)=i+1+j by omega];exact c⟩
 ·rw [hh]
  exact .inr ⟨rfl,0,zO,by rw [zLz];exact hh⟩
theorem yG5 {i:Nat} (h:yCG D at_ n ver i=none):yEF D at_ n ver i=none:=by unfold yEF;rw [h]
end
def wsJ (at_ v:Nat):Nat→List (List UInt8)→List (Nat × List UInt8)
 |_,[]=>[]
 |k,p::r=>(at_+k,yAx (yAW v k:Nat) p)::wsJ at_ v (k+1) r
theorem yQw (at_ v:Nat):∀ (G:List (List UInt8)) (k:Nat),(wsJ at_ v k G).length=G.length:=by
 intro G
 induction G with
 |nil=>intro k;rfl
 |cons p G ih=>intro k;simp [wsJ,ih]
theorem yZi (at_ v:Nat):∀ (G:List (List UInt8)) (k:Nat),(∀ p ∈ G,p.length≤234)→∀ x ∈ wsJ at_ v k G,at_+k≤x.1∧x.1<at_+k+G.length∧x.2.length=256:=by
 intro G
 induction G with
 |nil=>intro k _ x hx;cases hx
 |cons p G ih=>
  intro k hp x hx
  rcases zLm.1 hx with rfl|hx
  ·exact ⟨Nat.le_refl _,by dsimp only;rw [zLj];omega,yAV _ _ (hp p zW)⟩
  ·obtain ⟨h1,h2,h3⟩:=ih (k+1) (fun q hq=>hp q (by simp [hq])) x hx
   rw [zLj]
   exact ⟨zO,zO,h3⟩
theorem yWu {D:Dsk} (h:D.off=false) (i:Nat) (hi:i<D.n) (s:List UInt8) (hs:s.length=256):(D.writeE i s=12→(D.writeD i s).off=true)∧(D.writeD i s).life=D.life:=by
 have hhas:D.has (i:Int)=true:=by unfold Dsk.has;exact zY zO
 obtain ⟨n,img,und,off,armed,wr,fl,lf⟩:=D
 obtain rfl:off=false:=h
 by_cases h0:armed=0
 ·subst h0
  simp [Dsk.writeE,Dsk.writeD,Dsk.dead,Dsk.gone,hhas,hs]
 ·by_cases hp:0<armed
  ·simp [Dsk.writeE,Dsk.writeD,Dsk.dead,Dsk.gone,hhas,hs,h0,hp]
  ·simp [Dsk.writeE,Dsk.writeD,Dsk.dead,Dsk.gone,hhas,hs,h0,hp]
theorem yZj {D:Dsk} (h:D.off=false):(D.flushE=12→D.flushD.off=true)∧D.flushD.life=D.life:=by
 obtain ⟨n,img,und,off,armed,wr,fl,lf⟩:=D
 obtain rfl:off=false:=h
 by_cases h0:armed=0
 ·subst h0
  simp [Dsk.flushE,Dsk.flushD,Dsk.dead,Dsk.gone]
 ·by_cases hp:0<armed
  ·simp [Dsk.flushE,Dsk.flushD,Dsk.dead,Dsk.gone,h0,hp]
  ·simp [Dsk.flushE,Dsk.flushD,Dsk.dead,Dsk.gone,h0,hp]
theorem yXC (at_ v used:Nat):∀ (ps:List (List UInt8)) (i:Nat) (D:Dsk),D.off=false→D.ok→(∀ p ∈ ps,p.length≤234)→at_+used+i+ps.length≤D.n→
 (((yEi at_ v used ps i D).1=true∧(yEi at_ v used ps i D).2.off=false∧(yEi at_ v used ps i D).2.und=D.und++wsJ at_ v (used+i) ps)∨
   ((yEi at_ v used ps i D).1=false∧(yEi at_ v used ps i D).2.off=true∧∃ m,(yEi at_ v used ps i D).2.und=D.und++(wsJ at_ v (used+i) ps).take m))∧
 (yEi at_ v used ps i D).2.img=D.img∧(yEi at_ v used ps i D).2.n=D.n∧(yEi at_ v used ps i D).2.ok∧(yEi at_ v used ps i D).2.life=D.life:=by
 intro ps
 induction ps with
 |nil=>intro i D h1 h2 _ _;exact ⟨.inl ⟨rfl,h1,by show D.und=D.und++[];rw [zLs]⟩,rfl,rfl,h2,rfl⟩
 |cons q ps ih=>
  intro i D h1 h2 hp hn
  rw [zLj] at hn
  have hS:=yAV (yAW v (used+i):Nat) q (hp q zW)
  obtain ⟨w1,w2,w3,w4,-⟩:=yHH h1 (at_+used+i) zO _ hS
  obtain ⟨w5,w6⟩:=yWu h1 (at_+used+i) zO _ hS
  have hok:=Dsk.writeD_ok h2 ((at_+used+i:Nat):Int) (yAx (yAW v (used+i):Nat) q)
  have hadr:(at_:Int)+(used:Nat)+(i:Nat)=((at_+used+i:Nat):Int):=zO
  have hu:yEi at_ v used (q::ps) i D=if D.writeE ((at_+used+i:Nat):Int) (yAx (yAW v (used+i):Nat) q)≠0 then (false,D.writeD ((at_+used+i:Nat):Int) (yAx (yAW v (used+i):Nat) q))
   else yEi at_ v used ps (i+1) (D.writeD ((at_+used+i:Nat):Int) (yAx (yAW v (used+i):Nat) q)):=by
   rw [← hadr];rfl
  rw [hu]
  clear hu
  obtain ⟨D1,hD1⟩:∃ D1,D1=D.writeD ((at_+used+i:Nat):Int) (yAx (yAW v (used+i):Nat) q):=⟨_,rfl⟩
  obtain ⟨e,he⟩:∃ e,e=D.writeE ((at_+used+i:Nat):Int) (yAx (yAW v (used+i):Nat) q):=⟨_,rfl⟩
  rw [← hD1] at w1 w2 w3 w4 w5 w6 hok ⊢
  rw [← he] at w1 w5 ⊢
  rcases w1 with ⟨a,b⟩|a
  ·rw [if_neg (by rw [a];simp)]
   obtain ⟨r1,r2,r3,r4,r5⟩:=ih (i+1) D1 b hok (fun x hx=>hp x (by simp [hx])) (by rw [w4];omega)
   have hcat:∀ X:List (Nat × List UInt8),D1.und++X=D.und++((at_+(used+i),yAx (yAW v (used+i):Nat) q)::X):=fun X=>by
    rw [w2,zLd,← Nat.add_assoc at_ used i];rfl
   refine ⟨?_,by rw [r2,w3],by rw [r3,w4],r4,by rw [r5,w6]⟩
   rcases r1 with ⟨c1,c2,c3⟩|⟨c1,c2,m,c3⟩
   ·exact .inl ⟨c1,c2,by rw [c3,hcat];rfl⟩
   ·exact .inr ⟨c1,c2,m+1,by rw [c3,hcat];rfl⟩
  ·rw [if_pos (by rw [a];simp)]
   refine ⟨.inr ⟨rfl,w5 a,1,?_⟩,w3,w4,hok,w6⟩
   rw [w2,Nat.add_assoc at_ used i]
   rfl
theorem yKl {s:Nat} {raw:List UInt8} (hs:s<2 ^ 64) (h:yCt (raw.drop 248) 8<(s:Int)):yBU s raw=none:=by
 unfold yBU
 split
 ·rfl
 split
 ·rfl
 split
 ·rfl
 split
 ·rename_i h234 heq
  exfalso
  have hpl:(yDV raw).length≤234:=by
   unfold yDV
   rw [zLf,zLg]
   omega
  have h1:=yI2 s (yDV raw) hpl hs
  rw [heq] at h1
  omega
 ·rfl
theorem yLx {v j:Nat} (hv:v≤1099511627776) (hj:j<65536):yAW v j<2 ^ 64:=by unfold yAW;omega
end Go.Proofs.YtlnbkbfblhofbaaGreatDoor
