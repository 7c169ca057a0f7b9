/-
  Jou2, Jou3, AreT, JLe1, JLe2, JLe3.
-/
import Derived.Test.YtnkhohfbijkohaaGreatDoorTCA
import Derived.Test.YtnkhohfbijkohaaGreatDoorTBX
set_option maxHeartbeats 64000000
namespace Go.Proofs.YtnkhohfbijkohaaGreatDoor
open Go Go.RowKit
abbrev plTCG0:Pl:=(.op 0 (.op 1 (.op 2 (.op 3 (.op 4 (.op 5 (.op 6 (.op 7 (.op 8 (.op 9 (.op 10 (.op 13 (.op 14 (.op 15 (.ef 11 [15,14,13] (.op 12 (.op 16 (.ef 17 [] (.op 18 .nil)))))))))))))))))))
abbrev plTCG1:Pl:=(.op 0 (.op 3 (.op 4 (.op 5 (.ef 1 [5,4,3,0] (.op 2 (.op 6 (.ef 7 [0] (.ef 8 [] (.ef 9 [] .nil))))))))))
abbrev plTCG2:Pl:=(.op 0 (.op 1 (.op 2 (.op 3 (.op 4 (.op 5 (.op 6 (.op 7 (.op 8 (.op 9 (.op 10 (.ef 11 [] (.op 12 (.op 13 (.op 14 (.op 15 (.op 16 .nil)))))))))))))))))
abbrev plTCG3:Pl:=(.op 0 (.op 1 (.op 2 (.op 3 (.op 4 (.op 5 (.op 6 (.op 7 (.op 8 (.op 9 (.op 10 (.op 11 (.op 12 (.op 13 (.op 14 (.op 15 (.op 16 (.op 17 (.ef 18 [] (.op 19 .nil))))))))))))))))))))
abbrev plTCG4:Pl:=(.op 0 (.op 1 (.op 2 (.op 3 (.op 4 (.op 5 (.ef 6 [3,2,1,0] (.op 7 (.op 8 (.op 9 (.ef 10 [] .nil)))))))))))
def chunksJ:Nat→List UInt8→List (List UInt8)
 |0,_=>[]
 |f+1,l=>if l=[] then [] else (0::l.take 233)::chunksJ f (l.drop 233)
def headJ (n:Nat):List UInt8:=[1,UInt8.ofNat (n % 256),UInt8.ofNat (n / 256 % 256),UInt8.ofNat (n / 65536 % 256),UInt8.ofNat (n / 16777216 % 256)]
def pcsJ (r:List UInt8):List (List UInt8):=(headJ r.length++r.take 229)::chunksJ r.length (r.drop 229)
theorem chunksJ_nil (f:Nat):chunksJ f []=[]:=by cases f <;> simp [chunksJ]
theorem chunksJ_cons (f:Nat) (l:List UInt8) (h:l≠[]):chunksJ (f+1) l=(0::l.take 233)::chunksJ f (l.drop 233):=by
 show (if l=[] then _ else _)=_
 rw [if_neg h]
theorem chunksJ_length:∀ (f:Nat) (l:List UInt8),l.length≤233*f→(chunksJ f l).length=(l.length+232) / 233:=by
 intro f
 induction f with
 |zero=>intro l h;have:l=[]:=List.length_eq_zero_iff.1 (by omega);subst this;rfl
 |succ f ih=>
  intro l h
  by_cases h0:l=[]
  ·subst h0;rw [chunksJ_nil];rfl
  ·have hp:=List.length_pos_iff.2 h0
   rw [chunksJ_cons _ _ h0,List.length_cons,ih _ (by rw [List.length_drop];omega),List.length_drop]
   omega
theorem chunksJ_le:∀ (f:Nat) (l:List UInt8),∀ p ∈ chunksJ f l,p.length≤234:=by
 intro f
 induction f with
 |zero=>intro l p hp;cases hp
 |succ f ih=>
  intro l p hp
  by_cases h0:l=[]
  ·subst h0;rw [chunksJ_nil] at hp;cases hp
  ·rw [chunksJ_cons _ _ h0] at hp
   rcases List.mem_cons.1 hp with rfl|hp
   ·rw [List.length_cons,List.length_take];omega
   ·exact ih _ _ hp
theorem pcsJ_length (r:List UInt8):((pcsJ r).length:Int)=costI r.length:=by
 unfold pcsJ costI
 rw [List.length_cons,chunksJ_length _ _ (by rw [List.length_drop];omega),List.length_drop]
 split
 ·omega
 split <;> omega
theorem pcsJ_le (r:List UInt8):∀ p ∈ pcsJ r,p.length≤234:=by
 intro p hp
 unfold pcsJ at hp
 rcases List.mem_cons.1 hp with rfl|hp
 ·rw [List.length_append,List.length_take];show 5+_≤234;omega
 ·exact chunksJ_le _ _ _ hp
theorem byte_val (n k:Nat):IntKind.u8.wrap ((n / k:Nat):Int)=((UInt8.ofNat (n / k % 256)).toNat:Int):=by
 have e:IntKind.u8.wrap ((n / k:Nat):Int)=((n / k:Nat):Int) % 256:=rfl
 rw [e,UInt8.toNat_ofNat']
 omega
theorem byte_val0 (n:Nat):IntKind.u8.wrap ((n:Nat):Int)=((UInt8.ofNat (n % 256)).toNat:Int):=by
 have e:IntKind.u8.wrap ((n:Nat):Int)=((n:Nat):Int) % 256:=rfl
 rw [e,UInt8.toNat_ofNat']
 omega
theorem shr_val (n j:Nat) (hj:j≤24):((n:Nat):Int).fdiv (2 ^ (min ((j:Nat):Int).toNat IntKind.i64.bits))=((n / 2 ^ j:Nat):Int):=by
 have hm:min ((j:Nat):Int).toNat IntKind.i64.bits=j:=by
  show min ((j:Nat):Int).toNat 64=j
  omega
 rw [hm,Int.fdiv_eq_ediv_of_nonneg _ (by exact Int.pow_nonneg (by decide))]
 simp
section
variable {W:World} {E:Nat→Addr} {p g:Nat} {D:Dsk}
set_option maxRecDepth 100000 in
theorem pieces_ct (r:List UInt8) (hl:r.length≤1048576):Ct Tryz.prog W 145 [strV r] [] (fun x:Nat × Nat=>.slice (some ⟨x.1,0,none⟩) (pcsJ r).length x.2) (fun x=>[rowP (.slice (some ⟨x.1,0,none⟩) (pcsJ r).length x.2) 9 1 (pcsJ r).length ((pcsJ r).map strV)]):=by
 obtain ⟨res,hres⟩:∃ res,res=pcsJ r:=⟨_,rfl⟩
 rw [← hres]
 have b0:=byte_val0 r.length
 have b1:=byte_val r.length 256
 have b2:=byte_val r.length 65536
 have b3:=byte_val r.length 16777216
 have s1:((r.length:Nat):Int).fdiv (2 ^ (min (8:Int).toNat IntKind.i64.bits))=((r.length / 256:Nat):Int):=shr_val r.length 8 (by omega)
 have s2:((r.length:Nat):Int).fdiv (2 ^ (min (16:Int).toNat IntKind.i64.bits))=((r.length / 65536:Nat):Int):=shr_val r.length 16 (by omega)
 have s3:((r.length:Nat):Int).fdiv (2 ^ (min (24:Int).toNat IntKind.i64.bits))=((r.length / 16777216:Nat):Int):=shr_val r.length 24 (by omega)
 obtain ⟨c0,hc0⟩:∃ c,c=UInt8.ofNat (r.length % 256):=⟨_,rfl⟩
 obtain ⟨c1,hc1⟩:∃ c,c=UInt8.ofNat (r.length / 256 % 256):=⟨_,rfl⟩
 obtain ⟨c2,hc2⟩:∃ c,c=UInt8.ofNat (r.length / 65536 % 256):=⟨_,rfl⟩
 obtain ⟨c3,hc3⟩:∃ c,c=UInt8.ofNat (r.length / 16777216 % 256):=⟨_,rfl⟩
 have hhead:headJ r.length=[1,c0,c1,c2,c3]:=by rw [hc0,hc1,hc2,hc3];rfl
 rw [← hc0] at b0
 rw [← hc1] at b1
 rw [← hc2] at b2
 rw [← hc3] at b3
 obtain ⟨n1,hn1⟩:∃ m,m=r.length / 256:=⟨_,rfl⟩
 obtain ⟨n2,hn2⟩:∃ m,m=r.length / 65536:=⟨_,rfl⟩
 obtain ⟨n3,hn3⟩:∃ m,m=r.length / 16777216:=⟨_,rfl⟩
 rw [← hn1] at s1 b1
 rw [← hn2] at s2 b2
 rw [← hn3] at s3 b3
 obtain ⟨ct,hct⟩:∃ m,m=min r.length 229:=⟨_,rfl⟩
 have hmin:min (r.length:Int) 229=(ct:Nat):=by omega
 have ht:r.take ((ct:Nat):Int).toNat=r.take 229:=by rw [Int.toNat_natCast,hct];exact List.take_eq_take_iff.2 (by omega)
 have hd:r.drop ((ct:Nat):Int).toNat=r.drop 229:=by
  rw [Int.toNat_natCast,hct]
  by_cases hh:r.length≤229
  ·rw [List.drop_of_length_le (by omega),List.drop_of_length_le (by omega)]
  ·rw [show min r.length 229=229 by omega]
 obtain ⟨r1,hr1⟩:∃ x,x=r.take 229:=⟨_,rfl⟩
 obtain ⟨r2,hr2⟩:∃ x,x=r.drop 229:=⟨_,rfl⟩
 have hr1l:r1.length≤229:=by rw [hr1,List.length_take];omega
 have hr2l:r2.length≤r.length:=by rw [hr2,List.length_drop];omega
 have hall:[[1,c0,c1,c2,c3]++r1]++chunksJ r.length r2=res:=by rw [hres,hr1,hr2,← hhead];rfl
 rw [← hr1] at ht
 rw [← hr2] at hd
 clear hc0 hc1 hc2 hc3 hn1 hn2 hn3 hr1 hr2 hhead hres
 refine Ct.enter Tryz.func145 rfl Tryz.ntmps145 (by simp) (fun R=>?_)
 repeat' (first|(refine zCi ?_;first|(refine KJ_bslice1 rfl xF (by rfl) (by omega) rfl (fun g2=>?_))|(refine KJ_bytes5 (v0:=1) (v1:=c0) (v2:=c1) (v3:=c2) (v4:=c3) rfl rfl rfl rfl rfl rfl (fun g1=>?_)))|(refine zBp ?_;first|refine zAc (Ev_bytesAll (l:=[1,c0,c1,c2,c3]) rfl xS rfl) ?_|refine zAc (zAv rfl b3) ?_|refine zAc (zAv rfl b2) ?_|refine zAc (zAv rfl b1) ?_|refine zAc (zAv rfl b0) ?_)|(refine ek_slice ?_;first|refine zAc (zCf rfl rfl (by omega) hd) ?_|refine zAc (Ev_sliceStrTo_v rfl rfl (by omega) ht) ?_)|(refine ek_min ?_;refine zAc (Ev_min_v rfl rfl hmin) ?_)|(refine zBk ?_;refine zAc (Ev_addSL rfl rfl) ?_)|(refine ek_shr ?_;first|refine zAc (Ev_shr_w rfl rfl (by omega) s3) ?_|refine zAc (Ev_shr_w rfl rfl (by omega) s2) ?_|refine zAc (Ev_shr_w rfl rfl (by omega) s1) ?_)|refine xst ?_|(refine xsa ?_;intro _)|(refine xsb ?_ ?_ <;>intro _<;>try (exfalso;omega))|refine xsc ?_|(refine zAb (id:=3) plTCG0 (by kernel_rfl) (by kernel_rfl) ?_)|(refine zAb (id:=8) plTCG1 (by kernel_rfl) (by kernel_rfl) ?_)|refine zAn ?_ ?_|refine zAm rfl rfl rfl rfl rfl ?_ ?_|refine zAf ?_ ?_|exact Rech.nil|fail)
 refine KJ.toRow (g:=g2) (m:=1) (size:=1) xS (by rfl) (by unfold maxLen;omega) ?_
 refine zBz (fun i:{s:Nat × List UInt8 × List (List UInt8) × Nat × Nat//s.2.2.1++chunksJ s.1 s.2.1=res∧s.2.1.length≤233*s.1∧s.2.1.length≤1048576∧s.2.2.1.length+s.1≤1048577}=>[(0,strV i.1.2.1),(5,.slice (some ⟨i.1.2.2.2.1,0,none⟩) i.1.2.2.1.length i.1.2.2.2.2)])
  (fun i=>[rowP (.slice (some ⟨i.1.2.2.2.1,0,none⟩) i.1.2.2.1.length i.1.2.2.2.2) 9 1 i.1.2.2.1.length (i.1.2.2.1.map strV)]++R) (fun i=>i.1.1) ⟨(r.length,r2,[[1,c0,c1,c2,c3]++r1],g2,1),hall,by dsimp only;omega,by dsimp only;omega,by dsimp only [List.length];omega⟩ xB (xN) (fun ⟨(f,rest,acc,ga,ca),hr,hf,hrl,hal⟩=>?_)
 dsimp only at hr hf hrl hal ⊢
 by_cases h0:rest=[]
 ·subst h0
  rw [chunksJ_nil,List.append_nil] at hr
  subst hr
  repeat' (first|(refine zBh ?_;refine zAc (Ev_neqS_f rfl rfl rfl) ?_)|refine xst ?_|(refine xsa ?_;intro _)|(refine xsb ?_ ?_ <;>intro _<;>try (exfalso;omega))|refine xsc ?_|(refine zAb (id:=3) plTCG0 (by kernel_rfl) (by kernel_rfl) ?_)|(refine zAb (id:=8) plTCG1 (by kernel_rfl) (by kernel_rfl) ?_)|refine zAn ?_ ?_|refine zAm rfl rfl rfl rfl rfl ?_ ?_|refine zAf ?_ ?_|exact Rech.nil|fail)
  all_goals (exact xdn (ga,ca))
 obtain ⟨f',rfl⟩:∃ f',f=f'+1:=⟨f-1,by have:=List.length_pos_iff.2 h0;omega⟩
 rw [chunksJ_cons _ _ h0] at hr
 obtain ⟨cu,hcu⟩:∃ m,m=min rest.length 233:=⟨_,rfl⟩
 have hmin2:min (rest.length:Int) 233=(cu:Nat):=by omega
 have ht2:rest.take ((cu:Nat):Int).toNat=rest.take 233:=by rw [Int.toNat_natCast,hcu];exact List.take_eq_take_iff.2 (by omega)
 have hd2:rest.drop ((cu:Nat):Int).toNat=rest.drop 233:=by
  rw [Int.toNat_natCast,hcu]
  by_cases hh:rest.length≤233
  ·rw [List.drop_of_length_le (by omega),List.drop_of_length_le (by omega)]
  ·rw [show min rest.length 233=233 by omega]
 obtain ⟨q1,hq1⟩:∃ x,x=rest.take 233:=⟨_,rfl⟩
 obtain ⟨q2,hq2⟩:∃ x,x=rest.drop 233:=⟨_,rfl⟩
 have hq1l:q1.length≤233:=by rw [hq1,List.length_take];omega
 have hq2l:q2.length=rest.length-233:=by rw [hq2,List.length_drop]
 rw [← hq1] at ht2 hr
 rw [← hq2] at hd2 hr
 clear hq1 hq2
 repeat' (first|(refine is_append ?_;refine KJ_append (a2:=0) rfl rfl (by rfl) (by omega) xS (Src.cells (i:=1) xS xC) (by rfl) (by omega) xO (by omega) (by omega) rfl rfl (fun g5 c5=>?_))|(refine zCi ?_;refine KJ_bslice1 rfl xF (by rfl) (by omega) rfl (fun g3=>?_))|(refine zBp ?_;refine zAc (Ev_bytesAll (l:=[0]) rfl xS rfl) ?_)|(refine ek_slice ?_;first|refine zAc (zCf rfl rfl (by omega) hd2) ?_|refine zAc (Ev_sliceStrTo_v rfl rfl (by omega) ht2) ?_)|(refine ek_min ?_;refine zAc (Ev_min_v rfl rfl hmin2) ?_)|(refine zBk ?_;refine zAc (Ev_addSL rfl rfl) ?_)|(refine zBh ?_;refine zAc (Ev_neqS_t rfl rfl h0) ?_)|refine xst ?_|(refine xsa ?_;intro _)|(refine xsb ?_ ?_ <;>intro _<;>try (exfalso;omega))|refine xsc ?_|(refine zAb (id:=3) plTCG0 (by kernel_rfl) (by kernel_rfl) ?_)|(refine zAb (id:=8) plTCG1 (by kernel_rfl) (by kernel_rfl) ?_)|refine zAn ?_ ?_|refine zAm rfl rfl rfl rfl rfl ?_ ?_|refine zAf ?_ ?_|exact Rech.nil|fail)
 refine zBd ⟨(f',q2,acc++[0::q1],g5,c5),by dsimp only;rw [List.append_assoc];exact hr,by dsimp only;omega,by dsimp only;omega,by dsimp only;rw [List.length_append];show acc.length+1+f'≤_;omega⟩ (by show f'<f'+1;omega) ?_ ?_
 ·dsimp only
  rw [List.length_append]
  exact xB
 ·have em:acc.map strV++[strV (0::q1)]=(acc++[0::q1]).map strV:=by simp
  dsimp only
  rw [← em,List.length_append]
  exact (xN)
def apGo (at_:Int) (ver used:Nat):List (List UInt8)→Nat→Dsk→Bool × Dsk
 |[],_,D=>(true,D)
 |pc::rest,i,D=>if D.writeE (at_+(used:Nat)+(i:Nat)) (zAw (zAz ver (used+i):Nat) pc)≠0 then (false,D.writeD (at_+(used:Nat)+(i:Nat)) (zAw (zAz ver (used+i):Nat) pc))
  else apGo at_ ver used rest (i+1) (D.writeD (at_+(used:Nat)+(i:Nat)) (zAw (zAz ver (used+i):Nat) pc))
set_option maxRecDepth 100000 in
theorem append_ct (hE:ErrsOn L8 W E) (e17:W.cell? ⟨4,0,none⟩=some (errV E 17)) (hN:NibAt W) (at_ n life:Int) (ver used:Nat) (r:List UInt8) (_:D.n≤65536) (hdn:zCg D life false=false) (hnb:0≤n∧n≤65536) (hu:(used:Int)≤n) (hl:r.length≤1048576) (hfit:costI r.length≤n-used) (hat:0≤at_∧at_≤65536) (hver:1≤ver∧ver≤1099511627776) (hul:D.und.length+65536<1073741823) :
 Ct Tryz.prog W 67 [.pointer (some ⟨g,0,none⟩),strV r] [DiskP p D,zAq g [.pointer (some ⟨p,0,none⟩),.int .i64 at_,.int .i64 n,.int .i64 ver,.int .i64 used,.int .i64 life,.bool false] 211] (fun _:Unit=>errV E (if (apGo at_ ver used (pcsJ r) 0 D).1 then 0 else 12))
  (fun _=>[DiskP p (apGo at_ ver used (pcsJ r) 0 D).2,zAq g [.pointer (some ⟨p,0,none⟩),.int .i64 at_,.int .i64 n,.int .i64 ver,.int .i64 (if (apGo at_ ver used (pcsJ r) 0 D).1 then (used:Int)+costI r.length else used),.int .i64 life,.bool (!(apGo at_ ver used (pcsJ r) 0 D).1)] 211]):=by
 have e12:W.cell? ⟨2,0,none⟩=some (errV E 12):=hE.at_ 12 (by decide)
 have _:=e17
 have c1:=down_ct (W:=W) (p:=p) (g:=g) (D:=D) at_ n ver used life false
 rw [hdn] at c1
 have c2:=fits_ct (W:=W) (p:=p) (g:=g) at_ n ver used life false r.length (by omega) hnb (by omega)
 rw [show decide (0≤(r.length:Int)∧costI r.length≤n-used)=true from decide_eq_true ⟨by omega,hfit⟩] at c2
 have c3:=pieces_ct (W:=W) r hl
 have c4:=cost_ct (W:=W) r.length (by omega)
 have hL:=pcsJ_length r
 have hLe:=pcsJ_le r
 obtain ⟨co,hco⟩:∃ c,c=costI r.length:=⟨_,rfl⟩
 obtain ⟨ps,hps⟩:∃ ps,ps=pcsJ r:=⟨_,rfl⟩
 rw [← hco] at hL hfit c4 ⊢
 rw [← hps] at hL hLe c3 ⊢
 clear hco hps
 obtain ⟨res,hres⟩:∃ res,res=apGo at_ ver used ps 0 D:=⟨_,rfl⟩
 rw [← hres]
 refine Ct.enter Tryz.func67 rfl Tryz.ntmps67 (by simp) (fun R=>?_)
 repeat' (first|(refine zAd ?_;first|(refine zAa xE c3 xP rfl (fun x=>?_))|(refine zAa xE c2 xP rfl (fun _=>?_))|(refine zAa xE c1 xP rfl (fun _=>?_)))|refine xst ?_|(refine xsa ?_;intro _)|(refine xsb ?_ ?_ <;>intro _<;>try (exfalso;omega))|refine xsc ?_|(refine zAb (id:=8) plTCG2 (by kernel_rfl) (by kernel_rfl) ?_)|(refine zAb (id:=10) plTCG3 (by kernel_rfl) (by kernel_rfl) ?_)|(refine zAb (id:=14) plTCG4 (by kernel_rfl) (by kernel_rfl) ?_)|refine zAn ?_ ?_|refine zAm rfl rfl rfl rfl rfl ?_ ?_|refine zAf ?_ ?_|exact Rech.nil|fail)
 rename_i x
 refine zBz (fun i:{s:Nat × Dsk//apGo at_ ver used (ps.drop s.1) s.1 s.2=res∧s.1≤ps.length∧s.2.und.length≤D.und.length+s.1}=>[(0,.pointer (some ⟨g,0,none⟩)),(1,strV r),(21,.slice (some ⟨x.1,0,none⟩) ps.length x.2),(22,.int .i64 (ps.length:Nat)),(23,.int .i64 (i.1.1:Nat))])
  (fun i=>[DiskP p i.1.2,zAq g [.pointer (some ⟨p,0,none⟩),.int .i64 at_,.int .i64 n,.int .i64 ver,.int .i64 used,.int .i64 life,.bool false] 211,rowP (.slice (some ⟨x.1,0,none⟩) ps.length x.2) 9 1 ps.length (ps.map strV)]++R) (fun i=>ps.length-i.1.1) ⟨(0,D),hres.symm,Nat.zero_le _,Nat.le_refl _⟩ xB (xN) (fun ⟨(k,Dk),hr,hk,hu2⟩=>?_)
 dsimp only at hr hk hu2 ⊢
 by_cases hlt:k<ps.length
 rotate_left
 ·have hkl:k=ps.length:=by omega
  subst hkl
  rw [List.drop_length] at hr
  have ql:decide ((ps.length:Int)<(ps.length:Int))=false:=decide_eq_false (by omega)
  have h1:res.1=true:=by rw [← hr];rfl
  have h2:res.2=Dk:=by rw [← hr];rfl
  rw [h1,h2]
  repeat' (first|(refine zAd ?_;refine zAa xE c4 xP rfl (fun _=>?_))|(refine zBk ?_;refine zAc (zAi (r:=(used:Int)+co) rfl rfl rfl (by omega)) ?_)|(refine zAs ?_;refine zAc (zAe rfl rfl ql) ?_)|refine xst ?_|(refine xsa ?_;intro _)|(refine xsb ?_ ?_ <;>intro _<;>try (exfalso;omega))|refine xsc ?_|(refine zAb (id:=8) plTCG2 (by kernel_rfl) (by kernel_rfl) ?_)|(refine zAb (id:=10) plTCG3 (by kernel_rfl) (by kernel_rfl) ?_)|(refine zAb (id:=14) plTCG4 (by kernel_rfl) (by kernel_rfl) ?_)|refine zAn ?_ ?_|refine zAm rfl rfl rfl rfl rfl ?_ ?_|refine zAf ?_ ?_|exact Rech.nil|fail)
  all_goals (exact xdn ())
 have ql:decide ((k:Int)<(ps.length:Int))=true:=decide_eq_true (by omega)
 obtain ⟨pc,hpc⟩:∃ pc,ps[k]? = some pc:=⟨_,List.getElem?_eq_getElem hlt⟩
 have hpl:=hLe pc (List.mem_of_getElem? hpc)
 have hdr:ps.drop k=pc::ps.drop (k+1):=by
  rw [List.drop_eq_getElem_cons hlt]
  congr 1
  exact (List.getElem?_eq_some_iff.1 hpc).2
 have hget:(ps.map strV)[0+((k:Nat):Int).toNat*1]? = some (strV pc):=by rw [Int.toNat_natCast,Nat.mul_one,Nat.zero_add,List.getElem?_map,hpc];rfl
 have hcast:((used+k:Nat):Int)=(used:Int)+(k:Int):=by omega
 have c5:=log_ct (W:=W) ver (used+k) hver (by omega)
 have c6:=seal_ok hN (zAz ver (used+k):Nat) pc (by unfold zAz;omega) hpl
 have c7:=write_ct (W:=W) (p:=p) (D:=Dk) hE (at_+(used:Nat)+(k:Nat)) (zAw (zAz ver (used+k):Nat) pc) (by omega)
 have hunf:apGo at_ ver used (pc::ps.drop (k+1)) k Dk=if Dk.writeE (at_+(used:Nat)+(k:Nat)) (zAw (zAz ver (used+k):Nat) pc)≠0 then (false,Dk.writeD (at_+(used:Nat)+(k:Nat)) (zAw (zAz ver (used+k):Nat) pc))
  else apGo at_ ver used (ps.drop (k+1)) (k+1) (Dk.writeD (at_+(used:Nat)+(k:Nat)) (zAw (zAz ver (used+k):Nat) pc)):=rfl
 rw [hdr,hunf] at hr
 have hu3:=writeD_und Dk (at_+(used:Nat)+(k:Nat)) (zAw (zAz ver (used+k):Nat) pc)
 obtain ⟨stm,hst⟩:∃ m,m=zAz ver (used+k):=⟨_,rfl⟩
 rw [← hst] at c5 c6 c7 hr hu3
 obtain ⟨raw,hraw⟩:∃ m,m=zAw (stm:Nat) pc:=⟨_,rfl⟩
 rw [← hraw] at c6 c7 hr hu3
 obtain ⟨D1,hD1⟩:∃ D1,D1=Dk.writeD (at_+(used:Nat)+(k:Nat)) raw:=⟨_,rfl⟩
 rw [← hD1] at c7 hr hu3
 obtain ⟨e,he⟩:∃ e,e=Dk.writeE (at_+(used:Nat)+(k:Nat)) raw:=⟨_,rfl⟩
 rw [← he] at c7 hr
 clear hst hraw hD1 he hunf hres hdr hpc
 by_cases hz:e=0
 ·subst hz
  rw [if_neg (by simp)] at hr
  have c7':Ct Tryz.prog W 148 [.pointer (some ⟨p,0,none⟩),.int .i64 (at_+(used:Nat)+(k:Nat)),strV raw] [DiskP p Dk] (fun _:Unit=>.nilIface) (fun _=>[DiskP p D1]):=c7
  repeat' (first|(refine zAd ?_;first|(refine zAa xE c7' xP rfl (fun _=>?_))|(refine zAa xE c6 xP rfl (fun _=>?_))|(refine zAa xE c5 xP rfl (fun _=>?_)))|(refine zAh ?_;refine zAc (Ev_loadRow rfl xS hget) ?_)|(refine zBk ?_;first|refine zAc (zAi (r:=((k+1:Nat):Int)) rfl rfl (by omega) (by omega)) ?_|refine zAc (zAi (r:=((used+k:Nat):Int)) rfl rfl hcast.symm (by omega)) ?_)|(refine zAs ?_;refine zAc (zAe rfl rfl ql) ?_)|refine xst ?_|(refine xsa ?_;intro _)|(refine xsb ?_ ?_ <;>intro _<;>try (exfalso;omega))|refine xsc ?_|(refine zAb (id:=8) plTCG2 (by kernel_rfl) (by kernel_rfl) ?_)|(refine zAb (id:=10) plTCG3 (by kernel_rfl) (by kernel_rfl) ?_)|(refine zAb (id:=14) plTCG4 (by kernel_rfl) (by kernel_rfl) ?_)|refine zAn ?_ ?_|refine zAm rfl rfl rfl rfl rfl ?_ ?_|refine zAf ?_ ?_|exact Rech.nil|fail)
  all_goals exact zBd ⟨(k+1,D1),hr,by dsimp only;omega,by dsimp only;omega⟩ (by show ps.length-(k+1)<ps.length-k;omega) xB (xN)
 ·rw [if_pos hz] at hr
  have h1:res.1=false:=by rw [← hr]
  have h2:res.2=D1:=by rw [← hr]
  rw [h1,h2]
  obtain ⟨ea,hea⟩:=errV_ne (E:=E) hz
  rw [hea] at c7
  repeat' (first|(refine zAd ?_;first|(refine zAa xE c7 xP rfl (fun _=>?_))|(refine zAa xE c6 xP rfl (fun _=>?_))|(refine zAa xE c5 xP rfl (fun _=>?_)))|(refine zAh ?_;first|refine zAc (zAp rfl e12) ?_|refine zAc (Ev_loadRow rfl xS hget) ?_)|(refine zBk ?_;first|refine zAc (zAi (r:=((k+1:Nat):Int)) rfl rfl (by omega) (by omega)) ?_|refine zAc (zAi (r:=((used+k:Nat):Int)) rfl rfl hcast.symm (by omega)) ?_)|(refine zAs ?_;refine zAc (zAe rfl rfl ql) ?_)|refine xst ?_|(refine xsa ?_;intro _)|(refine xsb ?_ ?_ <;>intro _<;>try (exfalso;omega))|refine xsc ?_|(refine zAb (id:=8) plTCG2 (by kernel_rfl) (by kernel_rfl) ?_)|(refine zAb (id:=10) plTCG3 (by kernel_rfl) (by kernel_rfl) ?_)|(refine zAb (id:=14) plTCG4 (by kernel_rfl) (by kernel_rfl) ?_)|refine zAn ?_ ?_|refine zAm rfl rfl rfl rfl rfl ?_ ?_|refine zAf ?_ ?_|exact Rech.nil|fail)
  all_goals (exact xdn ())
end
end Go.Proofs.YtnkhohfbijkohaaGreatDoor
namespace Go.Proofs.YtnkhohfbijkohaaGreatDoor
open Go Go.RowKit
def payO (D:Dsk) (at_ n:Int) (ver i:Nat):Option (List UInt8):=if n≤(i:Int) then none else if D.readE (at_+(i:Nat))≠0 then none else openS (zAz ver i:Nat) (D.readS (at_+(i:Nat)))
def sizeGo (q:List UInt8):Nat→Int
 |0=>0
 |k+1=>bits .or .i64 (sizeGo q k) (IntKind.i64.wrap (((q.getD (1+k) 0).toNat:Int)*2 ^ (min (8*(k:Int)).toNat IntKind.i64.bits)))
def recGo (D:Dsk) (at_ n:Int) (ver i:Nat) (size:Int):Nat→Nat→List UInt8→Option (List UInt8)
 |0,_,out=>some out
 |f+1,k,out=>match payO D at_ n ver (i+k) with
  |none=>none
  |some q=>if (q.length:Int)≠1+min (size-out.length) 233 then none else if q.getD 0 0≠0 then none else recGo D at_ n ver i size f (k+1) (out++q.drop 1)
def recO (D:Dsk) (at_ n:Int) (ver i:Nat):Option (List UInt8 × Int):=
 match payO D at_ n ver i with
 |none=>none
 |some q=>if q.length<5 then none else if q.getD 0 0≠1 then none else if n-(i:Int)<costI (sizeGo q 4) then none else if ((q.drop 5).length:Int)≠min (sizeGo q 4) 229 then none else
  match recGo D at_ n ver i (sizeGo q 4) (costI (sizeGo q 4)-1).toNat 1 (q.drop 5) with
  |none=>none
  |some s=>some (s,costI (sizeGo q 4))
def rpGo (D:Dsk) (at_ n:Int) (ver:Nat):Nat→Nat→List (List UInt8)→List (List UInt8)
 |0,_,acc=>acc
 |f+1,i,acc=>match recO D at_ n ver i with
  |none=>acc
  |some (s,u)=>rpGo D at_ n ver f (i+u.toNat) (acc++[s])
theorem i64_range (x:Int):-9223372036854775808≤IntKind.i64.wrap x∧IntKind.i64.wrap x≤9223372036854775807:=by
 have:IntKind.i64.wrap x=if x % 18446744073709551616≥9223372036854775808 then x % 18446744073709551616-18446744073709551616 else x % 18446744073709551616:=by
  simp [IntKind.wrap,IntKind.signed,IntKind.bits]
 rw [this]
 split <;> omega
theorem sizeGo_range (q:List UInt8) (k:Nat):-9223372036854775808≤sizeGo q k∧sizeGo q k≤9223372036854775807:=by
 cases k with
 |zero=>exact ⟨by show (-9223372036854775808:Int)≤0;omega,by show (0:Int)≤_;omega⟩
 |succ k=>
  show _≤bits .or .i64 _ _∧bits .or .i64 _ _≤_
  exact i64_range _
theorem recO_some {D:Dsk} {at_ n:Int} {ver i:Nat} {s:List UInt8} {u:Int} (h:recO D at_ n ver i=some (s,u)):1≤u∧u≤n-(i:Int):=by
 unfold recO at h
 split at h
 ·cases h
 split at h
 ·cases h
 split at h
 ·cases h
 split at h
 ·cases h
 split at h
 ·cases h
 split at h
 ·cases h
 rename_i q hq h5 h6 h1 h2 x s' hs'
 simp only [Option.some.injEq,Prod.mk.injEq] at h
 obtain ⟨-,rfl⟩:=h
 refine ⟨?_,by omega⟩
 unfold costI
 split
 ·rw [List.length_drop] at h2;omega
 split <;> omega
section
variable {W:World} {E:Nat→Addr} {p g:Nat} {D:Dsk}
theorem payload_ct (hE:ErrsOn L8 W E) (hN:NibAt W) (at_ n:Int) (ver i:Nat) (hat:0≤at_∧at_≤65536) (hn:n≤65536) (hver:1≤ver∧ver≤1099511627776) (hi:i≤131072):Ct Tryz.prog W 272 [.agg #[.pointer (some ⟨p,0,none⟩),.int .i64 at_,.int .i64 n,.int .i64 (ver:Nat)],.int .i64 (i:Nat)] [DiskP p D] (fun _:Unit=>.tuple #[strV ((payO D at_ n ver i).getD []),.bool (payO D at_ n ver i).isSome]) (fun _=>[DiskP p D]):=by
 by_cases h1:n≤(i:Int)
 ·have q1:decide (n≤(i:Int))=true:=decide_eq_true h1
  rw [show payO D at_ n ver i=none from if_pos h1]
  refine Ct.enter Tryz.func272 rfl Tryz.ntmps272 (by simp) (fun R=>?_)
  repeat' (first|(refine is_box ?_;refine KJ_box rfl xF rfl (fun g1=>?_))|(refine ek_geq ?_;refine zAc (zBr rfl rfl q1) ?_)|refine xst ?_|(refine xsa ?_;intro _)|(refine xsb ?_ ?_ <;>intro _<;>try (exfalso;omega))|refine xsc ?_|fail)
  all_goals (exact xdn ())
 have q1:decide (n≤(i:Int))=false:=decide_eq_false h1
 have c1:=log_ct (W:=W) ver i hver (by omega)
 have c2:=read_ct (W:=W) (p:=p) (D:=D) hE (at_+(i:Nat))
 have c3:=open_ct (W:=W) hN (zAz ver i:Nat) (D.readS (at_+(i:Nat)))
 obtain ⟨stm,hst⟩:∃ m,m=zAz ver i:=⟨_,rfl⟩
 rw [show payO D at_ n ver i=_ from if_neg h1,← hst]
 rw [← hst] at c1 c3
 obtain ⟨raw,hraw⟩:∃ m,m=D.readS (at_+(i:Nat)):=⟨_,rfl⟩
 obtain ⟨e,he⟩:∃ m,m=D.readE (at_+(i:Nat)):=⟨_,rfl⟩
 rw [← hraw,← he]
 rw [← hraw] at c2 c3
 rw [← he] at c2
 clear hst hraw he
 by_cases hz:e=0
 ·subst hz
  rw [if_neg (by simp)]
  have c2':Ct Tryz.prog W 111 [.pointer (some ⟨p,0,none⟩),.int .i64 (at_+(i:Nat))] [DiskP p D] (fun _:Unit=>.tuple #[strV raw,.nilIface]) (fun _=>[DiskP p D]):=c2
  refine Ct.enter Tryz.func272 rfl Tryz.ntmps272 (by simp) (fun R=>?_)
  repeat' (first|(refine is_box ?_;refine KJ_box rfl xF rfl (fun g1=>?_))|(refine zAd ?_;first|(refine zAa xE c3 xP rfl (fun _=>?_))|(refine zAa xE c2' xP rfl (fun _=>?_))|(refine zAa xE c1 xP rfl (fun _=>?_)))|(refine ek_geq ?_;refine zAc (zBr rfl rfl q1) ?_)|refine xst ?_|(refine xsa ?_;intro _)|(refine xsb ?_ ?_ <;>intro _<;>try (exfalso;omega))|refine xsc ?_|fail)
  all_goals (exact xdn ())
 ·rw [if_pos hz]
  obtain ⟨ea,hea⟩:=errV_ne (E:=E) hz
  rw [hea] at c2
  refine Ct.enter Tryz.func272 rfl Tryz.ntmps272 (by simp) (fun R=>?_)
  repeat' (first|(refine is_box ?_;refine KJ_box rfl xF rfl (fun g1=>?_))|(refine zAd ?_;first|(refine zAa xE c2 xP rfl (fun _=>?_))|(refine zAa xE c1 xP rfl (fun _=>?_)))|(refine ek_geq ?_;refine zAc (zBr rfl rfl q1) ?_)|refine xst ?_|(refine xsa ?_;intro _)|(refine xsb ?_ ?_ <;>intro _<;>try (exfalso;omega))|refine xsc ?_|fail)
  all_goals (exact xdn ())
def recV (o:Option (List UInt8 × Int)):Value:=match o with
 |none=>.tuple #[strV [],.int .i64 0,.bool false]
 |some (s,u)=>.tuple #[strV s,.int .i64 u,.bool true]
set_option maxRecDepth 100000 in
theorem record_ct (hE:ErrsOn L8 W E) (hN:NibAt W) (at_ n:Int) (ver i:Nat) (hat:0≤at_∧at_≤65536) (hn:n≤65536) (hver:1≤ver∧ver≤1099511627776) (hi:(i:Int)≤n):Ct Tryz.prog W 232 [.agg #[.pointer (some ⟨p,0,none⟩),.int .i64 at_,.int .i64 n,.int .i64 (ver:Nat)],.int .i64 (i:Nat)] [DiskP p D] (fun _:Unit=>recV (recO D at_ n ver i)) (fun _=>[DiskP p D]):=by
 have c1:=payload_ct (p:=p) (D:=D) hE hN at_ n ver i hat hn hver (by omega)
 have cp:=fun k (hk:(i:Int)+(k:Nat)≤131072)=>payload_ct (p:=p) (D:=D) hE hN at_ n ver (i+k) hat hn hver (by omega)
 obtain ⟨res,hres⟩:∃ res,res=recO D at_ n ver i:=⟨_,rfl⟩
 rw [← hres]
 unfold recO at hres
 obtain ⟨o,ho⟩:∃ o,o=payO D at_ n ver i:=⟨_,rfl⟩
 rw [← ho] at c1 hres
 clear ho
 cases o with
 |none=>
  subst hres
  have c1':Ct Tryz.prog W 272 [.agg #[.pointer (some ⟨p,0,none⟩),.int .i64 at_,.int .i64 n,.int .i64 (ver:Nat)],.int .i64 (i:Nat)] [DiskP p D] (fun _:Unit=>.tuple #[strV [],.bool false]) (fun _=>[DiskP p D]):=c1
  show Ct _ _ _ _ _ (fun _:Unit=>.tuple #[strV [],.int .i64 0,.bool false]) _
  refine Ct.enter Tryz.func232 rfl Tryz.ntmps232 (by simp) (fun R=>?_)
  repeat' (first|(refine is_box ?_;refine KJ_box rfl xF rfl (fun g2=>?_))|(refine zAd ?_;refine zAa xE c1' xP rfl (fun _=>?_))|refine xst ?_|(refine xsa ?_;intro _)|(refine xsb ?_ ?_ <;>intro _<;>try (exfalso;omega))|refine xsc ?_|fail)
  all_goals (exact xdn ())
 |some q=>
  dsimp only at hres
  have c1':Ct Tryz.prog W 272 [.agg #[.pointer (some ⟨p,0,none⟩),.int .i64 at_,.int .i64 n,.int .i64 (ver:Nat)],.int .i64 (i:Nat)] [DiskP p D] (fun _:Unit=>.tuple #[strV q,.bool true]) (fun _=>[DiskP p D]):=c1
  clear c1
  by_cases h5:q.length<5
  ·rw [if_pos h5] at hres
   subst hres
   have q5:decide ((q.length:Int)<5)=true:=decide_eq_true (by omega)
   show Ct _ _ _ _ _ (fun _:Unit=>.tuple #[strV [],.int .i64 0,.bool false]) _
   refine Ct.enter Tryz.func232 rfl Tryz.ntmps232 (by simp) (fun R=>?_)
   repeat' (first|(refine is_box ?_;refine KJ_box rfl xF rfl (fun g2=>?_))|(refine zAd ?_;refine zAa xE c1' xP rfl (fun _=>?_))|(refine zAs ?_;refine zAc (zAe rfl rfl q5) ?_)|refine xst ?_|(refine xsa ?_;intro _)|(refine xsb ?_ ?_ <;>intro _<;>try (exfalso;omega))|refine xsc ?_|fail)
   all_goals (exact xdn ())
  rw [if_neg h5] at hres
  have q5:decide ((q.length:Int)<5)=false:=decide_eq_false (by omega)
  obtain ⟨c0,hc0⟩:∃ c,q[(0:Int).toNat]? = some c:=⟨_,List.getElem?_eq_getElem (by show 0<q.length;omega)⟩
  have hg0:q.getD 0 0=c0:=by rw [List.getD];rw [show q[0]? = some c0 from hc0];rfl
  rw [hg0] at hres
  by_cases h6:c0=1
  rotate_left
  ·rw [if_pos h6] at hres
   subst hres
   have h6':((c0.toNat:Nat):Int)≠1:=by
    intro e
    apply h6
    apply UInt8.toNat_inj.1
    show c0.toNat=1
    omega
   show Ct _ _ _ _ _ (fun _:Unit=>.tuple #[strV [],.int .i64 0,.bool false]) _
   refine Ct.enter Tryz.func232 rfl Tryz.ntmps232 (by simp) (fun R=>?_)
   repeat' (first|(refine is_box ?_;refine KJ_box rfl xF rfl (fun g2=>?_))|(refine zAd ?_;refine zAa xE c1' xP rfl (fun _=>?_))|(refine ek_index ?_;refine zAc (zCe rfl rfl (by omega) hc0) ?_)|(refine zBh ?_;refine zAc (Ev_neqI_t rfl rfl h6') ?_)|(refine zAs ?_;refine zAc (zAe rfl rfl q5) ?_)|refine xst ?_|(refine xsa ?_;intro _)|(refine xsb ?_ ?_ <;>intro _<;>try (exfalso;omega))|refine xsc ?_|fail)
   all_goals (exact xdn ())
  rw [if_neg (by simpa using h6)] at hres
  have h6':((c0.toNat:Nat):Int)=1:=by rw [h6];rfl
  refine Ct.enter Tryz.func232 rfl Tryz.ntmps232 (by simp) (fun R=>?_)
  repeat' (first|(refine is_box ?_;refine KJ_box rfl xF rfl (fun g2=>?_))|(refine zAd ?_;refine zAa xE c1' xP rfl (fun _=>?_))|(refine ek_index ?_;refine zAc (zCe rfl rfl (by omega) hc0) ?_)|(refine zBh ?_;refine zAc (zCb rfl rfl h6') ?_)|(refine zAs ?_;refine zAc (zAe rfl rfl q5) ?_)|refine xst ?_|(refine xsa ?_;intro _)|(refine xsb ?_ ?_ <;>intro _<;>try (exfalso;omega))|refine xsc ?_|fail)
  refine zBz (fun k:{k:Nat//k≤4}=>[(1,.int .i64 (i:Nat)),(2,.pointer (some ⟨g2,0,none⟩)),(7,strV q),(9,.int .i64 (sizeGo q k.1)),(32,.int .i64 (k.1:Nat))]) (fun _=>[DiskP p D,zAq g2 [.pointer (some ⟨p,0,none⟩),.int .i64 at_,.int .i64 n,.int .i64 (ver:Nat)] 209]++R) (fun k=>4-k.1) ⟨0,by omega⟩ xB (xN) (fun ⟨k,hk⟩=>?_)
  dsimp only
  by_cases hlt:k<4
  ·have ql:decide ((k:Int)<4)=true:=decide_eq_true (by omega)
   obtain ⟨c,hc⟩:∃ c,q[((k+1:Nat):Int).toNat]? = some c:=⟨_,List.getElem?_eq_getElem (by omega)⟩
   have hgc:q.getD (1+k) 0=c:=by
    rw [show ((k+1:Nat):Int).toNat=1+k by omega] at hc
    rw [List.getD,hc];rfl
   have hcb:=UInt8.toNat_lt c
   obtain ⟨sh,hsh⟩:∃ sh,IntKind.i64.wrap ((c.toNat:Int)*2 ^ (min (8*(k:Int)).toNat IntKind.i64.bits))=sh:=⟨_,rfl⟩
   have hor:bits .or .i64 (sizeGo q k) sh=sizeGo q (k+1):=by rw [← hsh,← hgc];rfl
   repeat' (first|(refine zBp ?_;refine zAc (Ev_convI64 rfl (by omega)) ?_)|(refine ek_index ?_;refine zAc (zCe rfl rfl (by omega) hc) ?_)|(refine zBk ?_;refine zAc (zAi (r:=((k+1:Nat):Int)) rfl rfl (by omega) (by omega)) ?_)|(refine ek_or ?_;refine zAc (Ev_or_w rfl rfl hor) ?_)|(refine ek_shl ?_;refine zAc (Ev_shl_w rfl rfl (by omega) hsh) ?_)|(refine zAs ?_;refine zAc (zAe rfl rfl ql) ?_)|refine xst ?_|(refine xsa ?_;intro _)|(refine xsb ?_ ?_ <;>intro _<;>try (exfalso;omega))|refine xsc ?_|fail)
   all_goals exact zBd ⟨k+1,by omega⟩ (by show 4-(k+1)<4-k;omega) xB (xN)
  have hk4:k=4:=by omega
  subst hk4
  have ql:decide (((4:Nat):Int)<4)=false:=by decide
  have hsz:=sizeGo_range q 4
  obtain ⟨size,hsize⟩:∃ s,s=sizeGo q 4:=⟨_,rfl⟩
  rw [← hsize] at hsz hres ⊢
  clear hsize
  have c2:=cost_ct (W:=W) size hsz.2
  have hcost:costI size=if size<0 then 0 else if size≤229 then 1 else 2+(size-230) / 233:=rfl
  obtain ⟨need,hneed⟩:∃ m,m=costI size:=⟨_,rfl⟩
  rw [← hneed] at c2 hres hcost
  clear hneed
  obtain ⟨q5',hq5⟩:∃ x,q.drop (5:Int).toNat=x:=⟨_,rfl⟩
  rw [show q.drop 5=q5' from hq5] at hres
  have hq5l:q5'.length=q.length-5:=by rw [← hq5];exact List.length_drop
  by_cases h7:n-(i:Int)<need
  ·rw [if_pos h7] at hres
   subst hres
   have q7:decide (n-(i:Int)<need)=true:=decide_eq_true h7
   repeat' (first|(refine zAd ?_;refine zAa xE c2 xP rfl (fun _=>?_))|(refine is_econv ?_;refine KJ_bufOf rfl rfl (fun g3 c3=>?_))|(refine ek_slice ?_;refine zAc (zCf rfl rfl (by omega) hq5) ?_)|(refine zAs ?_;refine zAc (zAe rfl rfl ql) ?_)|(refine zBa ?_;refine zAc (zAg rfl rfl q7) ?_)|refine xst ?_|(refine xsa ?_;intro _)|(refine xsb ?_ ?_ <;>intro _<;>try (exfalso;omega))|refine xsc ?_|fail)
   all_goals (exact xdn ())
  rw [if_neg h7] at hres
  have q7:decide (n-(i:Int)<need)=false:=decide_eq_false h7
  obtain ⟨mn,hmn⟩:∃ m,min size 229=m:=⟨_,rfl⟩
  rw [hmn] at hres
  by_cases h8:(q5'.length:Int)=mn
  rotate_left
  ·rw [if_pos h8] at hres
   subst hres
   repeat' (first|(refine zAd ?_;refine zAa xE c2 xP rfl (fun _=>?_))|(refine is_econv ?_;refine KJ_bufOf rfl rfl (fun g3 c3=>?_))|(refine ek_slice ?_;refine zAc (zCf rfl rfl (by omega) hq5) ?_)|(refine ek_min ?_;refine zAc (Ev_min_v rfl rfl hmn) ?_)|(refine zBh ?_;refine zAc (Ev_neqI_t rfl rfl h8) ?_)|(refine zAs ?_;refine zAc (zAe rfl rfl ql) ?_)|(refine zBa ?_;refine zAc (zAg rfl rfl q7) ?_)|refine xst ?_|(refine xsa ?_;intro _)|(refine xsb ?_ ?_ <;>intro _<;>try (exfalso;omega))|refine xsc ?_|fail)
   all_goals (exact xdn ())
  rw [if_neg (by simpa using h8)] at hres
  have hs0:0≤size:=by omega
  have hs1:size≤16777216:=by split at hcost <;> omega
  obtain ⟨ro,hro⟩:∃ ro,ro=recGo D at_ n ver i size (need-1).toNat 1 q5':=⟨_,rfl⟩
  rw [← hro] at hres
  repeat' (first|(refine zAd ?_;refine zAa xE c2 xP rfl (fun _=>?_))|(refine is_econv ?_;refine KJ_bufOf rfl rfl (fun g3 c3=>?_))|(refine ek_slice ?_;refine zAc (zCf rfl rfl (by omega) hq5) ?_)|(refine ek_min ?_;refine zAc (Ev_min_v rfl rfl hmn) ?_)|(refine zBh ?_;refine zAc (zCb rfl rfl h8) ?_)|(refine zAs ?_;refine zAc (zAe rfl rfl ql) ?_)|(refine zBa ?_;refine zAc (zAg rfl rfl q7) ?_)|refine xst ?_|(refine xsa ?_;intro _)|(refine xsb ?_ ?_ <;>intro _<;>try (exfalso;omega))|refine xsc ?_|fail)
  refine zBz (fun k:{s:Nat × Nat × List UInt8 × Nat × Nat//recGo D at_ n ver i size s.1 s.2.1 s.2.2.1=ro∧(s.1:Int)+s.2.1=max need 1∧1≤s.2.1∧(s.2.2.1.length:Int)=min size (229+233*((s.2.1:Int)-1))}=>[(1,.int .i64 (i:Nat)),(2,.pointer (some ⟨g2,0,none⟩)),(9,.int .i64 size),(11,.int .i64 need),(12,.slice (some ⟨k.1.2.2.2.1,0,none⟩) k.1.2.2.1.length k.1.2.2.2.2),(13,.int .i64 (k.1.2.1:Nat))])
   (fun k=>[DiskP p D,zAq g2 [.pointer (some ⟨p,0,none⟩),.int .i64 at_,.int .i64 n,.int .i64 (ver:Nat)] 209,bufP k.1.2.2.2.1 k.1.2.2.1.length k.1.2.2.2.2 k.1.2.2.1 5]++R) (fun k=>k.1.1) ⟨((need-1).toNat,1,q5',g3,c3),hro.symm,by dsimp only;omega,by dsimp only;omega,by dsimp only;omega⟩ xB (xN) (fun ⟨(fu,k,out,g4,c4),hr,hfk,hk1,hol⟩=>?_)
  dsimp only at hr hfk hk1 hol ⊢
  by_cases hlt2:(k:Int)<need
  rotate_left
  ·have qk:decide ((k:Int)<need)=false:=decide_eq_false hlt2
   have hfu:fu=0:=by omega
   subst hfu
   have hr2:ro=some out:=by rw [← hr];rfl
   rw [hr2] at hres
   subst hres
   repeat' (first|(refine zBp ?_;refine zAc (Ev_bytesBuf rfl xS) ?_)|(refine zAs ?_;refine zAc (zAe rfl rfl qk) ?_)|refine xst ?_|(refine xsa ?_;intro _)|(refine xsb ?_ ?_ <;>intro _<;>try (exfalso;omega))|refine xsc ?_|fail)
   all_goals (exact xdn ())
  have qk:decide ((k:Int)<need)=true:=decide_eq_true hlt2
  obtain ⟨fu',rfl⟩:∃ f',fu=f'+1:=⟨fu-1,by omega⟩
  have hout:(out.length:Int)=229+233*((k:Int)-1)∧(out.length:Int)<size:=by split at hcost <;> omega
  have c6:=cp k (by omega)
  have hunf:recGo D at_ n ver i size (fu'+1) k out=match payO D at_ n ver (i+k) with
   |none=>none
   |some q=>if (q.length:Int)≠1+min (size-out.length) 233 then none else if q.getD 0 0≠0 then none else recGo D at_ n ver i size fu' (k+1) (out++q.drop 1):=rfl
  rw [hunf] at hr
  clear hunf
  obtain ⟨o2,ho2⟩:∃ o,o=payO D at_ n ver (i+k):=⟨_,rfl⟩
  rw [← ho2] at c6 hr
  clear ho2
  cases o2 with
  |none=>
   have hr2:ro=none:=by rw [← hr]
   rw [hr2] at hres
   subst hres
   have c6':Ct Tryz.prog W 272 [.agg #[.pointer (some ⟨p,0,none⟩),.int .i64 at_,.int .i64 n,.int .i64 (ver:Nat)],.int .i64 ((i+k:Nat):Int)] [DiskP p D] (fun _:Unit=>.tuple #[strV [],.bool false]) (fun _=>[DiskP p D]):=c6
   repeat' (first|(refine zAd ?_;refine zAa xE c6' xP rfl (fun _=>?_))|(refine zBk ?_;refine zAc (zAi (r:=((i+k:Nat):Int)) rfl rfl (by omega) (by omega)) ?_)|(refine zAs ?_;refine zAc (zAe rfl rfl qk) ?_)|refine xst ?_|(refine xsa ?_;intro _)|(refine xsb ?_ ?_ <;>intro _<;>try (exfalso;omega))|refine xsc ?_|fail)
   all_goals (exact xdn ())
  |some q2=>
   dsimp only at hr
   have c6':Ct Tryz.prog W 272 [.agg #[.pointer (some ⟨p,0,none⟩),.int .i64 at_,.int .i64 n,.int .i64 (ver:Nat)],.int .i64 ((i+k:Nat):Int)] [DiskP p D] (fun _:Unit=>.tuple #[strV q2,.bool true]) (fun _=>[DiskP p D]):=c6
   obtain ⟨m2,hm2⟩:∃ m,min (size-(out.length:Int)) 233=m:=⟨_,rfl⟩
   rw [hm2] at hr
   by_cases h9:(q2.length:Int)=1+m2
   rotate_left
   ·rw [if_pos h9] at hr
    have hr2:ro=none:=by rw [← hr]
    rw [hr2] at hres
    subst hres
    repeat' (first|(refine zAd ?_;refine zAa xE c6' xP rfl (fun _=>?_))|(refine ek_min ?_;refine zAc (Ev_min_v rfl rfl hm2) ?_)|(refine zBk ?_;refine zAc (zAi (r:=((i+k:Nat):Int)) rfl rfl (by omega) (by omega)) ?_)|(refine zBh ?_;refine zAc (Ev_neqI_t rfl rfl h9) ?_)|(refine zAs ?_;refine zAc (zAe rfl rfl qk) ?_)|refine xst ?_|(refine xsa ?_;intro _)|(refine xsb ?_ ?_ <;>intro _<;>try (exfalso;omega))|refine xsc ?_|fail)
    all_goals (exact xdn ())
   rw [if_neg (by simpa using h9)] at hr
   obtain ⟨d0,hd0⟩:∃ c,q2[(0:Int).toNat]? = some c:=⟨_,List.getElem?_eq_getElem (by show 0<q2.length;omega)⟩
   have hgd:q2.getD 0 0=d0:=by rw [List.getD];rw [show q2[0]? = some d0 from hd0];rfl
   rw [hgd] at hr
   by_cases h10:d0=0
   rotate_left
   ·rw [if_pos h10] at hr
    have hr2:ro=none:=by rw [← hr]
    rw [hr2] at hres
    subst hres
    have h10':((d0.toNat:Nat):Int)≠0:=by
     intro e
     apply h10
     apply UInt8.toNat_inj.1
     show d0.toNat=0
     omega
    repeat' (first|(refine zAd ?_;refine zAa xE c6' xP rfl (fun _=>?_))|(refine ek_index ?_;refine zAc (zCe rfl rfl (by omega) hd0) ?_)|(refine ek_min ?_;refine zAc (Ev_min_v rfl rfl hm2) ?_)|(refine zBk ?_;refine zAc (zAi (r:=((i+k:Nat):Int)) rfl rfl (by omega) (by omega)) ?_)|(refine zBh ?_;first|refine zAc (Ev_neqI_t rfl rfl h10') ?_|refine zAc (zCb rfl rfl h9) ?_)|(refine zAs ?_;refine zAc (zAe rfl rfl qk) ?_)|refine xst ?_|(refine xsa ?_;intro _)|(refine xsb ?_ ?_ <;>intro _<;>try (exfalso;omega))|refine xsc ?_|fail)
    all_goals (exact xdn ())
   rw [if_neg (by simpa using h10)] at hr
   have h10':((d0.toNat:Nat):Int)=0:=by rw [h10];rfl
   obtain ⟨q3,hq3⟩:∃ x,q2.drop (1:Int).toNat=x:=⟨_,rfl⟩
   rw [show q2.drop 1=q3 from hq3] at hr
   have hq3l:q3.length=q2.length-1:=by rw [← hq3];exact List.length_drop
   repeat' (first|(refine zAd ?_;refine zAa xE c6' xP rfl (fun _=>?_))|(refine is_append ?_;refine KJ_appendBuf rfl rfl xS (by omega) rfl (fun g5 c5=>?_))|(refine ek_index ?_;refine zAc (zCe rfl rfl (by omega) hd0) ?_)|(refine ek_slice ?_;refine zAc (zCf rfl rfl (by omega) hq3) ?_)|(refine ek_min ?_;refine zAc (Ev_min_v rfl rfl hm2) ?_)|(refine zBk ?_;first|refine zAc (zAi (r:=((k+1:Nat):Int)) rfl rfl (by omega) (by omega)) ?_|refine zAc (zAi (r:=((i+k:Nat):Int)) rfl rfl (by omega) (by omega)) ?_)|(refine zBh ?_;first|refine zAc (zCb rfl rfl h10') ?_|refine zAc (zCb rfl rfl h9) ?_)|(refine zAs ?_;refine zAc (zAe rfl rfl qk) ?_)|refine xst ?_|(refine xsa ?_;intro _)|(refine xsb ?_ ?_ <;>intro _<;>try (exfalso;omega))|refine xsc ?_|fail)
   refine zBd ⟨(fu',k+1,out++q3,g5,c5),hr,by dsimp only;omega,by dsimp only;omega,by dsimp only;rw [List.length_append];split at hcost <;> omega⟩ (by show fu'<fu'+1;omega) ?_ ?_
   ·dsimp only
    rw [List.length_append]
    exact xB
   ·dsimp only
    rw [List.length_append]
    exact (xN)
set_option maxRecDepth 100000 in
theorem replay_ct (hE:ErrsOn L8 W E) (hN:NibAt W) (at_ n:Int) (ver:Nat) (hn2:D.n≤65536) (ho:D.off=false) (h:logOk D at_ n ver):Ct Tryz.prog W 181 [.pointer (some ⟨p,0,none⟩),.int .i64 at_,.int .i64 n,.int .i64 (ver:Nat)] [DiskP p D]
 (fun v:Value=>.tuple #[v,.nilIface]) (fun v=>[DiskP p D,rowP v 9 1 (rpGo D at_ n ver (n.toNat+1) 0 []).length ((rpGo D at_ n ver (n.toNat+1) 0 []).map strV)]):=by
 have c1:=check_ct (W:=W) (p:=p) hn2 ho at_ n (ver:Nat) h
 obtain ⟨h1,h2,h3,h4,h5,h6,h7⟩:=h
 obtain ⟨res,hres⟩:∃ res,res=rpGo D at_ n ver (n.toNat+1) 0 []:=⟨_,rfl⟩
 rw [← hres]
 have cr:=fun i (hi:((i:Nat):Int)≤n)=>record_ct (W:=W) (p:=p) (D:=D) hE hN at_ n ver i (by omega) h5 (by omega) hi
 refine Ct.enter Tryz.func181 rfl Tryz.ntmps181 (by simp) (fun R=>?_)
 repeat' (first|(refine zAd ?_;refine zAa xE c1 xP rfl (fun _=>?_))|(refine ek_build ?_;refine zAc (Ev_build xV xW) ?_)|refine xst ?_|(refine xsa ?_;intro _)|(refine xsb ?_ ?_ <;>intro _<;>try (exfalso;omega))|refine xsc ?_|fail)
 refine KJ.row0 (e:=9) (sz:=1) ?_
 rename_i gl _
 refine zBz (fun k:{s:Nat × Nat × List (List UInt8) × Value//rpGo D at_ n ver s.1 s.2.1 s.2.2.1=res∧(s.2.1:Int)≤n∧n+1≤(s.1:Int)+s.2.1∧s.2.2.1.length≤s.2.1}=>[(10,.pointer (some ⟨gl,0,none⟩)),(12,k.1.2.2.2),(13,.int .i64 (k.1.2.1:Nat))])
  (fun k=>[DiskP p D,zAq gl [.pointer (some ⟨p,0,none⟩),.int .i64 at_,.int .i64 n,.int .i64 (ver:Nat)] 209,rowP k.1.2.2.2 9 1 k.1.2.2.1.length (k.1.2.2.1.map strV)]++R) (fun k=>k.1.1) ⟨(n.toNat+1,0,[],.slice none 0 0),hres.symm,by dsimp only;omega,by dsimp only;omega,Nat.le_refl _⟩ xB (xN) (fun ⟨(f,i,acc,v),hr,hin,hfi,hal⟩=>?_)
 dsimp only at hr hin hfi hal ⊢
 obtain ⟨f',rfl⟩:∃ f',f=f'+1:=⟨f-1,by omega⟩
 have hunf:rpGo D at_ n ver (f'+1) i acc=match recO D at_ n ver i with
  |none=>acc
  |some (s,u)=>rpGo D at_ n ver f' (i+u.toNat) (acc++[s]):=rfl
 rw [hunf] at hr
 clear hunf
 have c2:=cr i hin
 have hrs:=fun s u=>recO_some (D:=D) (at_:=at_) (n:=n) (ver:=ver) (i:=i) (s:=s) (u:=u)
 obtain ⟨o,ho⟩:∃ o,o=recO D at_ n ver i:=⟨_,rfl⟩
 rw [← ho] at c2 hr
 simp only [← ho] at hrs
 clear ho
 cases o with
 |none=>
  have hr2:acc=res:=hr
  subst hr2
  have c2':Ct Tryz.prog W 232 [.agg #[.pointer (some ⟨p,0,none⟩),.int .i64 at_,.int .i64 n,.int .i64 (ver:Nat)],.int .i64 (i:Nat)] [DiskP p D] (fun _:Unit=>.tuple #[strV [],.int .i64 0,.bool false]) (fun _=>[DiskP p D]):=c2
  repeat' (first|(refine zAd ?_;refine zAa xE c2' xP rfl (fun _=>?_))|refine xst ?_|(refine xsa ?_;intro _)|(refine xsb ?_ ?_ <;>intro _<;>try (exfalso;omega))|refine xsc ?_|fail)
  all_goals (exact xdn v)
 |some su=>
  obtain ⟨s,u⟩:=su
  dsimp only at hr
  obtain ⟨hu1,hu2⟩:=hrs s u rfl
  obtain ⟨un,rfl⟩:∃ un:Nat,u=(un:Int):=⟨u.toNat,by omega⟩
  rw [Int.toNat_natCast] at hr
  have c2':Ct Tryz.prog W 232 [.agg #[.pointer (some ⟨p,0,none⟩),.int .i64 at_,.int .i64 n,.int .i64 (ver:Nat)],.int .i64 (i:Nat)] [DiskP p D] (fun _:Unit=>.tuple #[strV s,.int .i64 (un:Nat),.bool true]) (fun _=>[DiskP p D]):=c2
  repeat' (first|(refine zAd ?_;refine zAa xE c2' xP rfl (fun _=>?_))|(refine is_append ?_;refine KJ_append (a2:=0) rfl rfl (by rfl) (by omega) xS (Src.cells (i:=1) xS xC) (by rfl) (by omega) xO (by omega) (by omega) rfl rfl (fun g5 c5=>?_))|(refine zCi ?_;refine KJ_bslice1 rfl xF (by rfl) (by omega) rfl (fun g3=>?_))|(refine zBk ?_;refine zAc (zAi (r:=((i+un:Nat):Int)) rfl rfl (by omega) (by omega)) ?_)|refine xst ?_|(refine xsa ?_;intro _)|(refine xsb ?_ ?_ <;>intro _<;>try (exfalso;omega))|refine xsc ?_|fail)
  refine zBd ⟨(f',i+un,acc++[s],.slice (some ⟨g5,0,none⟩) (acc.length+1) c5),hr,by dsimp only;omega,by dsimp only;omega,by dsimp only;rw [List.length_append];show acc.length+1≤_;omega⟩ (by show f'<f'+1;omega) xB ?_
  have em:acc.map strV++[strV s]=(acc++[s]).map strV:=by simp
  dsimp only
  rw [← em,List.length_append]
  exact (xN)
end
end Go.Proofs.YtnkhohfbijkohaaGreatDoor
namespace Go.Proofs.YtnkhohfbijkohaaGreatDoor
open Go Go.RowKit
theorem mix_tail (s v j:Nat) (hv:v<s):∃ w,w≤s∧∀ i,i<8→byteAt (w:Int) i=if i<j then byteAt (s:Int) i else byteAt (v:Int) i:=by
 obtain ⟨B,hB⟩:∃ B,B=2 ^ (8*j):=⟨_,rfl⟩
 have hBp:0<B:=by rw [hB];exact Nat.two_pow_pos _
 have hr:s % B<B:=Nat.mod_lt _ hBp
 refine ⟨B*(v / B)+s % B,?_,fun i hi=>?_⟩
 ·have h1:=Nat.div_le_div_right (c:=B) (Nat.le_of_lt hv)
  have h2:=Nat.div_add_mod s B
  have h3:=Nat.mul_le_mul_left B h1
  omega
 ·apply UInt8.toNat_inj.1
  split
  ·rename_i hlt
   obtain ⟨e,he⟩:∃ e,j=i+1+e:=⟨j-i-1,by omega⟩
   rw [byteAt_val _ _ hi,byteAt_val _ _ hi]
   obtain ⟨A,hA⟩:∃ A,A=2 ^ (8*i):=⟨_,rfl⟩
   obtain ⟨C,hC⟩:∃ C,C=2 ^ (8*e):=⟨_,rfl⟩
   have hAp:0<A:=by rw [hA];exact Nat.two_pow_pos _
   have hB2:B=A*(256*C):=by
    rw [hB,hA,hC,he,show 8*(i+1+e)=8*i+(8+8*e) by omega,Nat.pow_add,Nat.pow_add]
   have k:∀ q r,(B*q+r) / A % 256=r / A % 256:=by
    intro q r
    rw [hB2,Nat.mul_assoc,Nat.mul_add_div hAp,Nat.mul_assoc,Nat.mul_add_mod]
   rw [← hA,k]
   have:=k (s / B) (s % B)
   rw [Nat.div_add_mod] at this
   exact this.symm
  ·obtain ⟨e,he⟩:∃ e,i=j+e:=⟨i-j,by omega⟩
   rw [byteAt_val _ _ hi,byteAt_val _ _ hi]
   have e2:2 ^ (8*i)=B*2 ^ (8*e):=by rw [hB,he,Nat.mul_add,Nat.pow_add]
   rw [e2,← Nat.div_div_eq_div_mul,← Nat.div_div_eq_div_mul,Nat.mul_add_div hBp,Nat.div_eq_of_lt hr,Nat.add_zero]
theorem torn_tail {s t d:Nat} {p old:List UInt8} (hs:s<2 ^ 64) (ht:t<s) (hp:p.length≤234) (ho:old.length=256) (hd:d≤256) (htail:getB (old.drop 248) 8≤(t:Int)) :
 getB ((tornB (zAw s p) old d).drop 248) 8≤(s:Int)∧(tornB (zAw s p) old d=zAw s p∨openS s (tornB (zAw s p) old d)=none):=by
 have hl:=zBm (s:Int) p hp
 have hl2:=torn_length hl ho hd
 obtain ⟨v,hv,hg,hb⟩:=getB_bytes (old.drop 248) 8 (by omega)
 rw [hg] at htail
 obtain ⟨w,hw,hwb⟩:=mix_tail s v (d-248) (by omega)
 have hT:∀ i,i<8→((tornB (zAw s p) old d).drop 248).getD i 0=byteAt (w:Int) i:=by
  intro i hi
  rw [getD_drop,torn_get hl hd,hwb i hi]
  by_cases h:248+i<d
  ·rw [if_pos h,if_pos (by omega),seal_tail s p hp _ (by omega) (by omega),Nat.add_sub_cancel_left]
  ·rw [if_neg h,if_neg (by omega),← hb i hi,getD_drop]
 have hG:getB ((tornB (zAw s p) old d).drop 248) 8=(w:Int):=by
  rw [getB_of _ w 8 (by omega) hT,Nat.mod_eq_of_lt (by omega)]
 refine ⟨by omega,?_⟩
 by_cases hws:w=s
 ·left
  subst hws
  have hdd:248<d:=by
   rcases Nat.lt_or_ge 248 d with h|h
   ·exact h
   ·exfalso
    have h1:=getB_of (old.drop 248) w 8 (by omega) (fun i hi=>by rw [hb i hi,hwb i hi,if_neg (by omega)])
    rw [hg,Nat.mod_eq_of_lt (by omega)] at h1
    omega
  refine ext_getD _ _ (by rw [hl,hl2]) fun i hi=>?_
  rw [hl2] at hi
  by_cases h:i<d
  ·rw [torn_get hl hd,if_pos h]
  ·have h1:=hT (i-248) (by omega)
   rw [getD_drop,show 248+(i-248)=i by omega] at h1
   rw [h1,seal_tail w p hp i (by omega) hi]
 ·right
  unfold openS
  split
  ·rfl
  split
  ·rfl
  split
  ·rfl
  split
  ·rename_i h234 heq
   exfalso
   have hpl:(openP (tornB (zAw s p) old d)).length≤234:=by
    unfold openP
    rw [List.length_drop,List.length_take]
    omega
   have h1:=seal_getT s (openP (tornB (zAw s p) old d)) hpl hs
   rw [heq,hG] at h1
   omega
  ·rfl
theorem pcs_length (stamp:Int):∀ (f a:Nat) (v:List UInt8),(pcs stamp f a v).length≤nsec v.length:=by
 intro f
 induction f with
 |zero=>intro a v;simp [pcs]
 |succ f ih=>
  intro a v
  by_cases hv:v=[]
  ·rw [hv,pcs_nil];simp
  ·rw [pcs_cons _ _ _ _ hv,List.length_cons]
   have h:=ih (a+1) (v.drop 234)
   have hp:=List.length_pos_iff.2 hv
   rw [List.length_drop] at h
   unfold nsec at h ⊢
   omega
theorem zs_tail0:getB ((zs 256).drop 248) 8=0:=by kernel_rfl
end Go.Proofs.YtnkhohfbijkohaaGreatDoor
namespace Go.Proofs.YtnkhohfbijkohaaGreatDoor
open Go Go.RowKit
theorem sizeGo_next (q:List UInt8) (k x:Nat) (hk:k<4) (hx:x<2 ^ (8*k)) (h:sizeGo q k=(x:Int)):sizeGo q (k+1)=((x+(q.getD (1+k) 0).toNat*2 ^ (8*k):Nat):Int):=by
 obtain ⟨c,hc⟩:∃ c,c=q.getD (1+k) 0:=⟨_,rfl⟩
 have hcb:=UInt8.toNat_lt c
 have hm:min (8*(k:Int)).toNat IntKind.i64.bits=8*k:=by
  show min (8*(k:Int)).toNat 64=8*k
  omega
 have hp:(2:Nat) ^ (8*k)≤2 ^ 24:=Nat.pow_le_pow_right (by omega) (by omega)
 have hp0:=Nat.two_pow_pos (8*k)
 have hcp:c.toNat*2 ^ (8*k)≤255*2 ^ 24:=Nat.mul_le_mul (by omega) hp
 show bits .or .i64 (sizeGo q k) (IntKind.i64.wrap (((q.getD (1+k) 0).toNat:Int)*2 ^ (min (8*(k:Int)).toNat IntKind.i64.bits)))=_
 rw [h,hm,← hc]
 have e2:((c.toNat:Int)*2 ^ (8*k))=((c.toNat*2 ^ (8*k):Nat):Int):=by simp
 obtain ⟨y,hy⟩:∃ y,y=c.toNat*2 ^ (8*k):=⟨_,rfl⟩
 have hor:x ||| y=x+y:=by
  rw [hy,Nat.or_comm,Nat.mul_comm,← Nat.two_pow_add_eq_or_of_lt hx,Nat.add_comm]
 rw [e2,← hy]
 rw [← hy] at hcp
 rw [i64_wrap (y:Int) (by omega)]
 have e:bits .or .i64 (x:Int) (y:Int)=IntKind.i64.wrap ((BitVec.ofInt 64 (x:Int) ||| BitVec.ofInt 64 (y:Int)).toNat:Int):=rfl
 have b1:(BitVec.ofInt 64 (x:Int)).toNat=x:=by rw [BitVec.toNat_ofInt];omega
 have b2:(BitVec.ofInt 64 (y:Int)).toNat=y:=by rw [BitVec.toNat_ofInt];omega
 rw [e,BitVec.toNat_or,b1,b2,hor]
 exact i64_wrap _ (by omega)
theorem sizeGo_head (L:Nat) (hL:L<2147483648) (x:List UInt8):sizeGo (headJ L++x) 4=(L:Int):=by
 have g0:((headJ L++x).getD (1+0) 0).toNat=L % 256:=by show (UInt8.ofNat (L % 256)).toNat=_;rw [UInt8.toNat_ofNat'];omega
 have g1:((headJ L++x).getD (1+1) 0).toNat=L / 256 % 256:=by show (UInt8.ofNat (L / 256 % 256)).toNat=_;rw [UInt8.toNat_ofNat'];omega
 have g2:((headJ L++x).getD (1+2) 0).toNat=L / 65536 % 256:=by show (UInt8.ofNat (L / 65536 % 256)).toNat=_;rw [UInt8.toNat_ofNat'];omega
 have g3:((headJ L++x).getD (1+3) 0).toNat=L / 16777216 % 256:=by show (UInt8.ofNat (L / 16777216 % 256)).toNat=_;rw [UInt8.toNat_ofNat'];omega
 have s0:=sizeGo_next (headJ L++x) 0 0 (by omega) (by decide) rfl
 rw [g0] at s0
 have s1:=sizeGo_next (headJ L++x) 1 (0+L % 256*2 ^ (8*0)) (by omega) (by omega) s0
 rw [g1] at s1
 have s2:=sizeGo_next (headJ L++x) 2 (0+L % 256*2 ^ (8*0)+L / 256 % 256*2 ^ (8*1)) (by omega) (by omega) s1
 rw [g2] at s2
 have s3:=sizeGo_next (headJ L++x) 3 (0+L % 256*2 ^ (8*0)+L / 256 % 256*2 ^ (8*1)+L / 65536 % 256*2 ^ (8*2)) (by omega) (by omega) s2
 rw [g3] at s3
 rw [s3]
 omega
section
variable {D:Dsk} {at_ n:Int} {ver:Nat}
theorem recGo_read (i:Nat) (L:Int):∀ (f:Nat) (l:List UInt8) (k:Nat) (out:List UInt8),l.length≤233*f→(out.length:Int)+l.length=L→
 (∀ j p,(chunksJ f l)[j]? = some p→payO D at_ n ver (i+k+j)=some p∨payO D at_ n ver (i+k+j)=none)→
 (recGo D at_ n ver i L (chunksJ f l).length k out=some (out++l)∧∀ j,j<(chunksJ f l).length→(payO D at_ n ver (i+k+j)).isSome=true)∨
 (recGo D at_ n ver i L (chunksJ f l).length k out=none∧∃ j,j<(chunksJ f l).length∧payO D at_ n ver (i+k+j)=none):=by
 intro f
 induction f with
 |zero=>
  intro l k out hl _ _
  have:l=[]:=List.length_eq_zero_iff.1 (by omega)
  subst this
  exact .inl ⟨by simp [chunksJ,recGo],fun j hj=>by simp [chunksJ] at hj⟩
 |succ f ih=>
  intro l k out hl hL hp
  by_cases h0:l=[]
  ·subst h0
   rw [chunksJ_nil]
   exact .inl ⟨by simp [recGo],fun j hj=>by simp at hj⟩
  have hpos:=List.length_pos_iff.2 h0
  rw [chunksJ_cons _ _ h0] at hp ⊢
  rw [List.length_cons]
  have hunf:recGo D at_ n ver i L ((chunksJ f (l.drop 233)).length+1) k out=match payO D at_ n ver (i+k) with
   |none=>none
   |some q=>if (q.length:Int)≠1+min (L-out.length) 233 then none else if q.getD 0 0≠0 then none else recGo D at_ n ver i L (chunksJ f (l.drop 233)).length (k+1) (out++q.drop 1):=rfl
  rw [hunf]
  clear hunf
  have hh:=hp 0 (0::l.take 233) rfl
  rw [Nat.add_zero] at hh
  rcases hh with hh|hh
  ·rw [hh]
   dsimp only
   rw [if_neg (by rw [List.length_cons,List.length_take];omega),if_neg (by simp)]
   have:=ih (l.drop 233) (k+1) (out++l.take 233) (by rw [List.length_drop];omega) (by rw [List.length_append,List.length_drop,List.length_take];omega) (fun j p hj=>by
    have:=hp (j+1) p (by simpa using hj)
    rwa [show i+k+(j+1)=i+(k+1)+j by omega] at this)
   rw [List.append_assoc,List.take_append_drop] at this
   rcases this with ⟨a,b⟩|⟨a,j,b,c⟩
   ·refine .inl ⟨a,fun j hj=>?_⟩
    cases j with
    |zero=>rw [Nat.add_zero,hh];rfl
    |succ j=>
     have:=b j (by omega)
     rwa [show i+(k+1)+j=i+k+(j+1) by omega] at this
   ·exact .inr ⟨a,j+1,by omega,by rw [show i+k+(j+1)=i+(k+1)+j by omega];exact c⟩
  ·rw [hh]
   exact .inr ⟨rfl,0,by omega,by rw [Nat.add_zero];exact hh⟩
theorem recO_read (i:Nat) (r:List UInt8) (hr:r.length<2147483648) (hp:∀ j p,(pcsJ r)[j]? = some p→payO D at_ n ver (i+j)=some p∨payO D at_ n ver (i+j)=none) (hn:(i:Int)+(pcsJ r).length≤n) :
 (recO D at_ n ver i=some (r,((pcsJ r).length:Int))∧∀ j,j<(pcsJ r).length→(payO D at_ n ver (i+j)).isSome=true)∨(recO D at_ n ver i=none∧∃ j,j<(pcsJ r).length∧payO D at_ n ver (i+j)=none):=by
 have hL:=pcsJ_length r
 have hlen:(pcsJ r).length=(chunksJ r.length (r.drop 229)).length+1:=rfl
 have hh:=hp 0 (headJ r.length++r.take 229) rfl
 rw [Nat.add_zero] at hh
 unfold recO
 rcases hh with hh|hh
 ·rw [hh]
  dsimp only
  have hql:(headJ r.length++r.take 229).length=5+min 229 r.length:=by rw [List.length_append,List.length_take];rfl
  have hdr:(headJ r.length++r.take 229).drop 5=r.take 229:=rfl
  rw [sizeGo_head _ hr,if_neg (by omega),if_neg (by show ¬ ((1:UInt8)≠1);simp),if_neg (by rw [← hL];omega),hdr,if_neg (by rw [List.length_take];omega)]
  have hfu:(costI (r.length:Nat)-1).toNat=(chunksJ r.length (r.drop 229)).length:=by rw [← hL,hlen];omega
  rw [hfu]
  have:=recGo_read (D:=D) (at_:=at_) (n:=n) (ver:=ver) i (r.length:Int) r.length (r.drop 229) 1 (r.take 229) (by rw [List.length_drop];omega) (by rw [List.length_drop,List.length_take];omega) (fun j p hj=>by
   have:=hp (j+1) p (by unfold pcsJ;simpa using hj)
   rwa [show i+(j+1)=i+1+j by omega] at this)
  rw [List.take_append_drop] at this
  rcases this with ⟨a,b⟩|⟨a,j,b,c⟩
  ·rw [a]
   refine .inl ⟨by dsimp only;rw [hL],fun j hj=>?_⟩
   cases j with
   |zero=>rw [Nat.add_zero,hh];rfl
   |succ j=>
    have:=b j (by omega)
    rwa [show i+1+j=i+(j+1) by omega] at this
  ·rw [a]
   exact .inr ⟨rfl,j+1,by omega,by rw [show i+(j+1)=i+1+j by omega];exact c⟩
 ·rw [hh]
  exact .inr ⟨rfl,0,by omega,by rw [Nat.add_zero];exact hh⟩
theorem recO_none {i:Nat} (h:payO D at_ n ver i=none):recO D at_ n ver i=none:=by unfold recO;rw [h]
theorem rp_read:∀ (rs:List (List UInt8)) (i:Nat) (acc:List (List UInt8)) (f:Nat),(∀ r ∈ rs,r.length<2147483648)→(∀ j p,(rs.flatMap pcsJ)[j]? = some p→payO D at_ n ver (i+j)=some p∨payO D at_ n ver (i+j)=none)→
 (i:Int)+(rs.flatMap pcsJ).length≤n→payO D at_ n ver (i+(rs.flatMap pcsJ).length)=none→rs.length<f→
 ∃ m,m≤rs.length∧rpGo D at_ n ver f i acc=acc++rs.take m∧(m<rs.length→∃ j,j<((rs.take (m+1)).flatMap pcsJ).length∧payO D at_ n ver (i+j)=none):=by
 intro rs
 induction rs with
 |nil=>
  intro i acc f _ _ _ hz hf
  obtain ⟨f',rfl⟩:∃ f',f=f'+1:=⟨f-1,by simp at hf;omega⟩
  refine ⟨0,Nat.le_refl _,?_,fun h=>by simp at h⟩
  have:=recO_none (i:=i) (by simpa using hz)
  unfold rpGo
  rw [this]
  simp
 |cons r rs ih=>
  intro i acc f hr hp hn hz hf
  rw [List.flatMap_cons,List.length_append] at hn hz
  obtain ⟨f',rfl⟩:∃ f',f=f'+1:=⟨f-1,by rw [List.length_cons] at hf;omega⟩
  have h1:=recO_read (D:=D) (at_:=at_) (n:=n) (ver:=ver) i r (hr r (by simp)) (fun j p hj=>hp j p (by
   rw [List.flatMap_cons,List.getElem?_append_left (List.getElem?_eq_some_iff.1 hj).1];exact hj)) (by omega)
  rcases h1 with ⟨a,b⟩|⟨a,j,b,c⟩
  ·obtain ⟨m,m1,m2,m3⟩:=ih (i+(pcsJ r).length) (acc++[r]) f' (fun x hx=>hr x (by simp [hx])) (fun j p hj=>by
    have:=hp ((pcsJ r).length+j) p (by
     rw [List.flatMap_cons,List.getElem?_append_right (by omega),Nat.add_sub_cancel_left];exact hj)
    rwa [← Nat.add_assoc] at this) (by omega) (by rw [Nat.add_assoc];exact hz) (by rw [List.length_cons] at hf;omega)
   refine ⟨m+1,by rw [List.length_cons];omega,?_,fun h=>?_⟩
   ·have hu:rpGo D at_ n ver (f'+1) i acc=match recO D at_ n ver i with
     |none=>acc
     |some (s,u)=>rpGo D at_ n ver f' (i+u.toNat) (acc++[s]):=rfl
    rw [hu,a]
    dsimp only
    rw [Int.toNat_natCast,m2,List.append_assoc]
    rfl
   ·obtain ⟨j,j1,j2⟩:=m3 (by rw [List.length_cons] at h;omega)
    refine ⟨(pcsJ r).length+j,?_,by rw [← Nat.add_assoc];exact j2⟩
    rw [List.take_succ_cons,List.flatMap_cons,List.length_append]
    omega
  ·refine ⟨0,Nat.zero_le _,?_,fun _=>⟨j,?_,c⟩⟩
   ·unfold rpGo
    rw [a]
    simp
   ·show j<(([r]:List (List UInt8)).flatMap pcsJ).length
    simpa using b
end
end Go.Proofs.YtnkhohfbijkohaaGreatDoor
namespace Go.Proofs.YtnkhohfbijkohaaGreatDoor
open Go Go.RowKit
set_option maxRecDepth 10000 in
theorem rd_lay (img:List UInt8) (n i:Nat) (hi:i<n) (hl:img.length=256*n) (u:List (Nat × List UInt8)) (hu:∀ x ∈ u,x.1<n∧x.2.length=256):(lastW u i).getD (cut img (i*256) 256)=cut (zBx img u) (i*256) 256:=by
 revert hu
 refine last_snoc_induction (P:=fun u=>(∀ x ∈ u,x.1<n∧x.2.length=256)→(lastW u i).getD (cut img (i*256) 256)=cut (zBx img u) (i*256) 256) (fun _=>rfl) ?_ u
 intro l x ih hu
 obtain ⟨j,b⟩:=x
 obtain ⟨h1,h2⟩:=hu (j,b) (by simp)
 dsimp only at h1 h2
 have hll:=layAll_length l img n hl (fun x hx=>hu x (by simp [hx]))
 rw [layAll_snoc,lastW_snoc]
 dsimp only
 by_cases hj:j=i
 ·subst hj
  rw [if_pos rfl]
  have:=cut_lay_same (zBx img l) b (j*256) (by omega)
  rw [h2] at this
  exact this.symm
 ·rw [if_neg hj,ih (fun x hx=>hu x (by simp [hx]))]
  have hb:j*256+b.length≤(zBx img l).length:=by omega
  rcases Nat.lt_or_ge i j with hlt|hge
  ·have hh:i*256+256≤j*256:=by omega
   exact (cut_lay_before _ _ _ _ _ hb hh).symm
  ·have hh:j*256+b.length≤i*256:=by omega
   exact (cut_lay_behind _ _ _ _ _ hb hh).symm
def wsJ (at_ v:Nat):Nat→List (List UInt8)→List (Nat × List UInt8)
 |_,[]=>[]
 |k,p::r=>(at_+k,zAw (zAz v k:Nat) p)::wsJ at_ v (k+1) r
theorem wsJ_length (at_ v:Nat):∀ (G:List (List UInt8)) (k:Nat),(wsJ at_ v k G).length=G.length:=by
 intro G
 induction G with
 |nil=>intro k;rfl
 |cons p G ih=>intro k;simp [wsJ,ih]
theorem wsJ_app (at_ v:Nat):∀ (G F:List (List UInt8)) (k:Nat),wsJ at_ v k (G++F)=wsJ at_ v k G++wsJ at_ v (k+G.length) F:=by
 intro G
 induction G with
 |nil=>intro F k;rfl
 |cons p G ih=>
  intro F k
  show _::wsJ at_ v (k+1) (G++F)=_::(wsJ at_ v (k+1) G++_)
  rw [ih,List.length_cons,show k+1+G.length=k+(G.length+1) by omega]
theorem wsJ_in (at_ v:Nat):∀ (G:List (List UInt8)) (k:Nat),(∀ p ∈ G,p.length≤234)→∀ x ∈ wsJ at_ v k G,at_+k≤x.1∧x.1<at_+k+G.length∧x.2.length=256:=by
 intro G
 induction G with
 |nil=>intro k _ x hx;cases hx
 |cons p G ih=>
  intro k hp x hx
  rcases List.mem_cons.1 hx with rfl|hx
  ·exact ⟨Nat.le_refl _,by dsimp only;rw [List.length_cons];omega,zBm _ _ (hp p (by simp))⟩
  ·obtain ⟨h1,h2,h3⟩:=ih (k+1) (fun q hq=>hp q (by simp [hq])) x hx
   rw [List.length_cons]
   exact ⟨by omega,by omega,h3⟩
theorem torn_ws (at_ v N:Nat) (dn:Nat→Nat) (hd:∀ k,dn k≤256):∀ (G:List (List UInt8)) (k m s:Nat) (img:List UInt8),img.length=256*N→at_+k+G.length≤N→(∀ p ∈ G,p.length≤234)→
 ∀ j p,G[j]? = some p→∃ d,d≤256∧cut (zBx img (cutP dn ((wsJ at_ v k G).take m) s)) ((at_+k+j)*256) 256=tornB (zAw (zAz v (k+j):Nat) p) (cut img ((at_+k+j)*256) 256) d∧((∀ k,dn k=256)→G.length≤m→d=256):=by
 intro G
 induction G with
 |nil=>intro k m s img _ _ _ j p hj;simp at hj
 |cons q G ih=>
  intro k m s img hl hn hp j p hj
  cases m with
  |zero=>exact ⟨0,by omega,by simp [cutP,tornB,zBx],fun _ h=>by simp at h⟩
  |succ m=>
   have hS:=zBm (zAz v k:Nat) q (hp q (by simp))
   rw [List.length_cons] at hn
   show ∃ d,d≤256∧cut (zBx img (cutP dn (((at_+k,zAw (zAz v k:Nat) q)::wsJ at_ v (k+1) G).take (m+1)) s)) _ 256=_∧_
   rw [List.take_succ_cons,cutP_cons,layAll_cons]
   dsimp only
   have htl:((zAw (zAz v k:Nat) q).take (dn s)).length=dn s:=by rw [List.length_take];have:=hd s;omega
   have hb:(at_+k)*256+((zAw (zAz v k:Nat) q).take (dn s)).length≤img.length:=by rw [htl];have:=hd s;omega
   cases j with
   |zero=>
    simp only [List.getElem?_cons_zero,Option.some.injEq] at hj
    subst hj
    refine ⟨dn s,hd s,?_,fun h _=>h s⟩
    show cut _ ((at_+k)*256) 256=tornB (zAw (zAz v k:Nat) q) (cut img ((at_+k)*256) 256) (dn s)
    rw [layAll_off N (at_+k) _ _ (by rw [lay_length _ _ _ hb];exact hl) (fun x hx=>?_)]
    ·exact cut_lay_torn _ _ _ _ hS (hd s) (by omega)
    ·obtain ⟨y,hy,e1,e2⟩:=cutP_in _ _ _ _ hx
     obtain ⟨h1,h2,h3⟩:=wsJ_in at_ v G (k+1) (fun z hz=>hp z (by simp [hz])) y (List.mem_of_mem_take hy)
     exact ⟨by omega,by omega,by omega⟩
   |succ j=>
    obtain ⟨d,h1,h2,h3⟩:=ih (k+1) m (s+1) (lay img ((at_+k)*256) ((zAw (zAz v k:Nat) q).take (dn s))) (by rw [lay_length _ _ _ hb];exact hl) (by omega) (fun z hz=>hp z (by simp [hz])) j p (by simpa using hj)
    refine ⟨d,h1,?_,fun q1 q2=>h3 q1 (by simpa using q2)⟩
    have hbh:(at_+k)*256+((zAw (zAz v k:Nat) q).take (dn s)).length≤(at_+(k+1)+j)*256:=by rw [htl];have:=hd s;omega
    rw [cut_lay_behind _ _ _ _ _ hb hbh] at h2
    rw [show at_+k+(j+1)=at_+(k+1)+j by omega,show k+(j+1)=k+1+j by omega]
    exact h2
theorem torn_ws_off (at_ v N:Nat) (dn:Nat→Nat) (G:List (List UInt8)) (k m s i:Nat) (img:List UInt8) (hl:img.length=256*N) (hn:at_+k+G.length≤N) (hp:∀ p ∈ G,p.length≤234) (hi:i<at_+k∨at_+k+G.length≤i) :
 cut (zBx img (cutP dn ((wsJ at_ v k G).take m) s)) (i*256) 256=cut img (i*256) 256:=by
 refine layAll_off N i _ _ hl fun x hx=>?_
 obtain ⟨y,hy,e1,e2⟩:=cutP_in _ _ _ _ hx
 obtain ⟨h1,h2,h3⟩:=wsJ_in at_ v G k hp y (List.mem_of_mem_take hy)
 exact ⟨by omega,by omega,by omega⟩
theorem wr_off {D:Dsk} (h:D.off=false) (i:Nat) (hi:i<D.n) (s:List UInt8) (hs:s.length=256):(D.writeE i s=12→(D.writeD i s).off=true)∧(D.writeD i s).life=D.life:=by
 have hhas:D.has (i:Int)=true:=by unfold Dsk.has;exact decide_eq_true (by omega)
 obtain ⟨n,img,und,off,armed,wr,fl,lf⟩:=D
 obtain rfl:off=false:=h
 by_cases h0:armed=0
 ·subst h0
  simp [Dsk.writeE,Dsk.writeD,Dsk.dead,Dsk.gone,hhas,hs]
 ·by_cases hp:0<armed
  ·simp [Dsk.writeE,Dsk.writeD,Dsk.dead,Dsk.gone,hhas,hs,h0,hp]
  ·simp [Dsk.writeE,Dsk.writeD,Dsk.dead,Dsk.gone,hhas,hs,h0,hp]
theorem fl_off {D:Dsk} (h:D.off=false):(D.flushE=12→D.flushD.off=true)∧D.flushD.life=D.life:=by
 obtain ⟨n,img,und,off,armed,wr,fl,lf⟩:=D
 obtain rfl:off=false:=h
 by_cases h0:armed=0
 ·subst h0
  simp [Dsk.flushE,Dsk.flushD,Dsk.dead,Dsk.gone]
 ·by_cases hp:0<armed
  ·simp [Dsk.flushE,Dsk.flushD,Dsk.dead,Dsk.gone,h0,hp]
  ·simp [Dsk.flushE,Dsk.flushD,Dsk.dead,Dsk.gone,h0,hp]
theorem ap_ways (at_ v used:Nat):∀ (ps:List (List UInt8)) (i:Nat) (D:Dsk),D.off=false→D.ok→(∀ p ∈ ps,p.length≤234)→at_+used+i+ps.length≤D.n→
 (((apGo at_ v used ps i D).1=true∧(apGo at_ v used ps i D).2.off=false∧(apGo at_ v used ps i D).2.und=D.und++wsJ at_ v (used+i) ps)∨
   ((apGo at_ v used ps i D).1=false∧(apGo at_ v used ps i D).2.off=true∧∃ m,(apGo at_ v used ps i D).2.und=D.und++(wsJ at_ v (used+i) ps).take m))∧
 (apGo at_ v used ps i D).2.img=D.img∧(apGo at_ v used ps i D).2.n=D.n∧(apGo at_ v used ps i D).2.ok∧(apGo at_ v used ps i D).2.life=D.life:=by
 intro ps
 induction ps with
 |nil=>intro i D h1 h2 _ _;exact ⟨.inl ⟨rfl,h1,by show D.und=D.und++[];rw [List.append_nil]⟩,rfl,rfl,h2,rfl⟩
 |cons q ps ih=>
  intro i D h1 h2 hp hn
  rw [List.length_cons] at hn
  have hS:=zBm (zAz v (used+i):Nat) q (hp q (by simp))
  obtain ⟨w1,w2,w3,w4,-⟩:=write_ways h1 (at_+used+i) (by omega) _ hS
  obtain ⟨w5,w6⟩:=wr_off h1 (at_+used+i) (by omega) _ hS
  have hok:=Dsk.writeD_ok h2 ((at_+used+i:Nat):Int) (zAw (zAz v (used+i):Nat) q)
  have hadr:(at_:Int)+(used:Nat)+(i:Nat)=((at_+used+i:Nat):Int):=by omega
  have hu:apGo at_ v used (q::ps) i D=if D.writeE ((at_+used+i:Nat):Int) (zAw (zAz v (used+i):Nat) q)≠0 then (false,D.writeD ((at_+used+i:Nat):Int) (zAw (zAz v (used+i):Nat) q))
   else apGo at_ v used ps (i+1) (D.writeD ((at_+used+i:Nat):Int) (zAw (zAz v (used+i):Nat) q)):=by
   rw [← hadr];rfl
  rw [hu]
  clear hu
  obtain ⟨D1,hD1⟩:∃ D1,D1=D.writeD ((at_+used+i:Nat):Int) (zAw (zAz v (used+i):Nat) q):=⟨_,rfl⟩
  obtain ⟨e,he⟩:∃ e,e=D.writeE ((at_+used+i:Nat):Int) (zAw (zAz v (used+i):Nat) q):=⟨_,rfl⟩
  rw [← hD1] at w1 w2 w3 w4 w5 w6 hok ⊢
  rw [← he] at w1 w5 ⊢
  rcases w1 with ⟨a,b⟩|a
  ·rw [if_neg (by rw [a];simp)]
   obtain ⟨r1,r2,r3,r4,r5⟩:=ih (i+1) D1 b hok (fun x hx=>hp x (by simp [hx])) (by rw [w4];omega)
   have hcat:∀ X:List (Nat × List UInt8),D1.und++X=D.und++((at_+(used+i),zAw (zAz v (used+i):Nat) q)::X):=fun X=>by
    rw [w2,List.append_assoc,← Nat.add_assoc at_ used i];rfl
   refine ⟨?_,by rw [r2,w3],by rw [r3,w4],r4,by rw [r5,w6]⟩
   rcases r1 with ⟨c1,c2,c3⟩|⟨c1,c2,m,c3⟩
   ·exact .inl ⟨c1,c2,by rw [c3,hcat];rfl⟩
   ·exact .inr ⟨c1,c2,m+1,by rw [c3,hcat];rfl⟩
  ·rw [if_pos (by rw [a];simp)]
   refine ⟨.inr ⟨rfl,w5 a,1,?_⟩,w3,w4,hok,w6⟩
   rw [w2,Nat.add_assoc at_ used i]
   rfl
structure Seen (at_ n v:Nat) (rs:List (List UInt8)) (sy:Nat) (sec:Nat→List UInt8):Prop where
 each:∀ j p,(rs.flatMap pcsJ)[j]? = some p→sec (at_+j)=zAw (zAz v j:Nat) p∨openS (zAz v j:Nat) (sec (at_+j))=none
 syn:∀ j p,((rs.take sy).flatMap pcsJ)[j]? = some p→sec (at_+j)=zAw (zAz v j:Nat) p
 rest:∀ j,(rs.flatMap pcsJ).length≤j→j<n→openS (zAz v j:Nat) (sec (at_+j))=none
 tails:∀ j,j<n→getB ((sec (at_+j)).drop 248) 8≤(zAz v j:Nat)
theorem openS_tail {s:Nat} {raw:List UInt8} (hs:s<2 ^ 64) (h:getB (raw.drop 248) 8<(s:Int)):openS s raw=none:=by
 unfold openS
 split
 ·rfl
 split
 ·rfl
 split
 ·rfl
 split
 ·rename_i h234 heq
  exfalso
  have hpl:(openP raw).length≤234:=by
   unfold openP
   rw [List.length_drop,List.length_take]
   omega
  have h1:=seal_getT s (openP raw) hpl hs
  rw [heq] at h1
  omega
 ·rfl
theorem pcs_le_all (rs:List (List UInt8)):∀ p ∈ rs.flatMap pcsJ,p.length≤234:=by
 intro p hp
 obtain ⟨r,_,hr⟩:=List.mem_flatMap.1 hp
 exact pcsJ_le r p hr
theorem stamp_lt {v j:Nat} (hv:v≤1099511627776) (hj:j<65536):zAz v j<2 ^ 64:=by unfold zAz;omega
theorem seen_read {at_ n v:Nat} {rs:List (List UInt8)} {sy:Nat} {sec:Nat→List UInt8} (hS:Seen at_ n v rs sy sec) (hv:1≤v∧v≤1099511627776) (hn:n≤60) (hG:(rs.flatMap pcsJ).length≤n) (hsm:∀ r ∈ rs,r.length≤14040) (hsy:sy≤rs.length)
 {D:Dsk} (hrd:∀ j,j<n→D.readE ((at_:Int)+(j:Nat))=0∧D.readS ((at_:Int)+(j:Nat))=sec (at_+j)) :
 ∃ m,sy≤m∧m≤rs.length∧rpGo D at_ (n:Nat) v (((n:Nat):Int).toNat+1) 0 []=rs.take m∧((∀ j p,(rs.flatMap pcsJ)[j]? = some p→sec (at_+j)=zAw (zAz v j:Nat) p)→m=rs.length):=by
 have hpay:∀ j,j<n→payO D at_ (n:Nat) v j=openS (zAz v j:Nat) (sec (at_+j)):=by
  intro j hj
  obtain ⟨h1,h2⟩:=hrd j hj
  unfold payO
  rw [if_neg (by omega),h1,if_neg (by simp),h2]
 have hop:∀ j p,p.length≤234→openS (zAz v j:Nat) (zAw (zAz v j:Nat) p)=some p:=fun j p hp=>seal_open (zAz v j) p hp (by unfold zAz;omega)
 have hlenr:rs.length≤(rs.flatMap pcsJ).length:=by
  clear hS hrd hpay hop hG hsm hsy
  induction rs with
  |nil=>simp
  |cons r rs ih=>
   rw [List.flatMap_cons,List.length_append,List.length_cons]
   have:1≤(pcsJ r).length:=by unfold pcsJ;rw [List.length_cons];omega
   omega
 have hz:payO D at_ (n:Nat) v (0+(rs.flatMap pcsJ).length)=none:=by
  rw [Nat.zero_add]
  by_cases h:(rs.flatMap pcsJ).length<n
  ·rw [hpay _ h];exact hS.rest _ (Nat.le_refl _) h
  ·unfold payO;rw [if_pos (by omega)]
 obtain ⟨m,m1,m2,m3⟩:=rp_read (D:=D) (at_:=at_) (n:=(n:Nat)) (ver:=v) rs 0 [] (((n:Nat):Int).toNat+1) (fun r hr=>by have:=hsm r hr;omega) (fun j p hj=>by
  have hjl:=(List.getElem?_eq_some_iff.1 hj).1
  rw [Nat.zero_add,hpay j (by omega)]
  rcases hS.each j p hj with h|h
  ·rw [h];exact .inl (hop j p (pcs_le_all rs p (List.mem_of_getElem? hj)))
  ·exact .inr h) (by omega) hz (by omega)
 have hbad:∀ j,j<((rs.take (m+1)).flatMap pcsJ).length→m<rs.length→payO D at_ (n:Nat) v (0+j)=none→∀ p,(rs.flatMap pcsJ)[j]? = some p→sec (at_+j)≠zAw (zAz v j:Nat) p:=by
  intro j hj hm hno p hp he
  have hjl:=(List.getElem?_eq_some_iff.1 hp).1
  rw [Nat.zero_add,hpay j (by omega),he,hop j p (pcs_le_all rs p (List.mem_of_getElem? hp))] at hno
  cases hno
 have hsub:∀ k j,j<((rs.take k).flatMap pcsJ).length→(rs.flatMap pcsJ)[j]? = ((rs.take k).flatMap pcsJ)[j]?:=by
  intro k j hj
  have e:rs.flatMap pcsJ=(rs.take k).flatMap pcsJ++(rs.drop k).flatMap pcsJ:=by rw [← List.flatMap_append,List.take_append_drop]
  rw [e,List.getElem?_append_left hj]
 refine ⟨m,?_,m1,by rw [m2];rfl,fun hall=>?_⟩
 ·rcases Nat.lt_or_ge m sy with h|h
  ·exfalso
   obtain ⟨j,j1,j2⟩:=m3 (by omega)
   have hle:((rs.take (m+1)).flatMap pcsJ).length≤((rs.take sy).flatMap pcsJ).length:=by
    have e:(rs.take sy).flatMap pcsJ=(rs.take (m+1)).flatMap pcsJ++((rs.take sy).drop (m+1)).flatMap pcsJ:=by
     rw [← List.flatMap_append]
     congr 1
     conv=>lhs;rw [← List.take_append_drop (m+1) (rs.take sy)]
     rw [List.take_take,Nat.min_eq_left (by omega)]
    rw [e,List.length_append];omega
   obtain ⟨p,hp⟩:∃ p,((rs.take sy).flatMap pcsJ)[j]? = some p:=⟨_,List.getElem?_eq_getElem (by omega)⟩
   exact hbad j j1 (by omega) j2 p (by rw [hsub sy j (by omega)];exact hp) (hS.syn j p hp)
  ·exact h
 ·rcases Nat.lt_or_ge m rs.length with h|h
  ·exfalso
   obtain ⟨j,j1,j2⟩:=m3 h
   obtain ⟨p,hp⟩:∃ p,((rs.take (m+1)).flatMap pcsJ)[j]? = some p:=⟨_,List.getElem?_eq_getElem j1⟩
   have hp2:=(hsub (m+1) j j1).trans hp
   exact hbad j j1 h j2 p hp2 (hall j p hp2)
  ·omega
end Go.Proofs.YtnkhohfbijkohaaGreatDoor
namespace Go.Proofs.YtnkhohfbijkohaaGreatDoor
open Go Go.RowKit
structure JL (N at_ n v:Nat) (lf:Int) (rs:List (List UInt8)) (sy:Nat) (D:Dsk):Prop where
 ok:D.ok
 n40:D.n=N
 life:D.life=lf
 fit:(rs.flatMap pcsJ).length≤n
 small:∀ r ∈ rs,r.length≤14040
 syl:sy≤rs.length
 whole:∀ j p,((rs.take sy).flatMap pcsJ)[j]? = some p→D.sec (at_+j)=zAw (zAz v j:Nat) p
 old:∀ j,((rs.take sy).flatMap pcsJ).length≤j→j<n→getB ((D.sec (at_+j)).drop 248) 8<(zAz v j:Nat)
 und:∃ m,D.und=(wsJ at_ v ((rs.take sy).flatMap pcsJ).length ((rs.drop sy).flatMap pcsJ)).take m∧(D.off=false→((rs.drop sy).flatMap pcsJ).length≤m)
section
variable {N at_ n v:Nat} {lf:Int} {rs:List (List UInt8)} {sy:Nat} {D:Dsk}
theorem JL.split (rs:List (List UInt8)) (sy:Nat):rs.flatMap pcsJ=(rs.take sy).flatMap pcsJ++(rs.drop sy).flatMap pcsJ:=by rw [← List.flatMap_append,List.take_append_drop]
theorem JL.seen (h:JL N at_ n v lf rs sy D) (hv:v≤1099511627776) (hat:at_+n≤N) (hn:n≤60) (dn:Nat→Nat) (hd:∀ k,dn k≤256) :
 Seen at_ n v rs sy (fun i=>cut (zBx D.img (cutP dn D.und 0)) (i*256) 256)∧((∀ k,dn k=256)→D.off=false→∀ j p,(rs.flatMap pcsJ)[j]? = some p→cut (zBx D.img (cutP dn D.und 0)) ((at_+j)*256) 256=zAw (zAz v j:Nat) p)∧
 (∀ j,(rs.flatMap pcsJ).length≤j→j<n→cut (zBx D.img (cutP dn D.und 0)) ((at_+j)*256) 256=D.sec (at_+j)):=by
 obtain ⟨m,hu,hm⟩:=h.und
 have hlen:=h.ok.len
 rw [h.n40] at hlen
 have hfit:=h.fit
 have hsp:=JL.split rs sy
 have hple:=pcs_le_all rs
 have hwhole:=h.whole
 have hold:=h.old
 obtain ⟨T,hT⟩:∃ T,T=(rs.take sy).flatMap pcsJ:=⟨_,rfl⟩
 obtain ⟨F,hF⟩:∃ F,F=(rs.drop sy).flatMap pcsJ:=⟨_,rfl⟩
 obtain ⟨G,hG⟩:∃ G,G=rs.flatMap pcsJ:=⟨_,rfl⟩
 rw [← hT,← hF] at hu
 rw [← hF] at hm
 rw [← hT,← hF,← hG] at hsp
 rw [← hG] at hfit hple
 rw [← hT] at hwhole hold
 have hGl:G.length=T.length+F.length:=by rw [hsp,List.length_append]
 have hFle:∀ p ∈ F,p.length≤234:=fun p hp=>hple p (by rw [hsp];simp [hp])
 rw [hu]
 have hsl:∀ j,j<n→(D.sec (at_+j)).length=256:=fun j hj=>cut_length _ _ _ (by omega)
 have hoff:∀ j,j<T.length∨G.length≤j→cut (zBx D.img (cutP dn ((wsJ at_ v T.length F).take m) 0)) ((at_+j)*256) 256=D.sec (at_+j):=fun j hj=>
  torn_ws_off at_ v N dn F T.length m 0 (at_+j) D.img hlen (by omega) hFle (by omega)
 have hin:∀ j p,G[j]? = some p→T.length≤j→∃ d,d≤256∧cut (zBx D.img (cutP dn ((wsJ at_ v T.length F).take m) 0)) ((at_+j)*256) 256=tornB (zAw (zAz v j:Nat) p) (D.sec (at_+j)) d∧((∀ k,dn k=256)→F.length≤m→d=256):=fun j p hj hTj=>by
  rw [hsp,List.getElem?_append_right hTj] at hj
  have:=torn_ws at_ v N dn hd F T.length m 0 D.img hlen (by omega) hFle (j-T.length) p hj
  rw [show at_+T.length+(j-T.length)=at_+j by omega,show T.length+(j-T.length)=j by omega] at this
  exact this
 have htorn:∀ j p d,G[j]? = some p→T.length≤j→d≤256→getB ((tornB (zAw (zAz v j:Nat) p) (D.sec (at_+j)) d).drop 248) 8≤(zAz v j:Nat)∧(tornB (zAw (zAz v j:Nat) p) (D.sec (at_+j)) d=zAw (zAz v j:Nat) p∨openS (zAz v j:Nat) (tornB (zAw (zAz v j:Nat) p) (D.sec (at_+j)) d)=none):=fun j p d hj hTj hd2=>by
  have hjl:=(List.getElem?_eq_some_iff.1 hj).1
  have ho:=hold j hTj (by omega)
  have hst:1≤zAz v j:=by unfold zAz;omega
  exact torn_tail (t:=zAz v j-1) (stamp_lt hv (by omega)) (by omega) (hple p (List.mem_of_getElem? hj)) (hsl j (by omega)) hd2 (by omega)
 have hTG:∀ j p,T[j]? = some p→G[j]? = some p:=fun j p hj=>by rw [hsp,List.getElem?_append_left (List.getElem?_eq_some_iff.1 hj).1];exact hj
 refine ⟨⟨fun j p hj=>?_,fun j p hj=>?_,fun j hj1 hj2=>?_,fun j hj=>?_⟩,fun h256 hon j p hj=>?_,fun j hj1 hj2=>?_⟩
 ·rw [← hG] at hj
  rcases Nat.lt_or_ge j T.length with hlt|hge
  ·left
   rw [hoff j (.inl hlt)]
   exact hwhole j p (by rw [hsp,List.getElem?_append_left hlt] at hj;exact hj)
  ·obtain ⟨d,d1,d2,d3⟩:=hin j p hj hge
   rw [d2]
   exact (htorn j p d hj hge d1).2
 ·rw [← hT] at hj
  rw [hoff j (.inl (List.getElem?_eq_some_iff.1 hj).1)]
  exact hwhole j p hj
 ·rw [← hG] at hj1
  rw [hoff j (.inr hj1)]
  exact openS_tail (stamp_lt hv (by omega)) (hold j (by omega) hj2)
 ·rcases Nat.lt_or_ge j T.length with hlt|hge
  ·rw [hoff j (.inl hlt)]
   have hp:T[j]? = some T[j]:=List.getElem?_eq_getElem hlt
   rw [hwhole j _ hp,seal_getT (zAz v j) _ (hple _ (List.mem_of_getElem? (hTG j _ hp))) (stamp_lt hv (by omega))]
   omega
  ·rcases Nat.lt_or_ge j G.length with hlt2|hge2
   ·have hp:G[j]? = some G[j]:=List.getElem?_eq_getElem hlt2
    obtain ⟨d,d1,d2,d3⟩:=hin j _ hp hge
    rw [d2]
    exact (htorn j _ d hp hge d1).1
   ·rw [hoff j (.inr hge2)]
    have:=hold j hge hj
    omega
 ·rw [← hG] at hj
  rcases Nat.lt_or_ge j T.length with hlt|hge
  ·rw [hoff j (.inl hlt)]
   exact hwhole j p (by rw [hsp,List.getElem?_append_left hlt] at hj;exact hj)
  ·obtain ⟨d,d1,d2,d3⟩:=hin j p hj hge
   have hjl:=(List.getElem?_eq_some_iff.1 hj).1
   rw [d2,d3 h256 (hm hon),torn_full _ _ (zBm _ _ (hple p (List.mem_of_getElem? hj))) (hsl j (by omega))]
 ·rw [← hG] at hj1
  exact hoff j (.inr hj1)
theorem JL.und_in (h:JL N at_ n v lf rs sy D) (hat:at_+n≤N) (hn:n≤60):(∀ x ∈ D.und,x.1<N∧x.2.length=256)∧D.und.length≤60:=by
 obtain ⟨m,hu,hm⟩:=h.und
 have hfit:=h.fit
 have hsp:=congrArg List.length (JL.split rs sy)
 rw [List.length_append] at hsp
 rw [hu]
 refine ⟨fun x hx=>?_,by rw [List.length_take,wsJ_length];omega⟩
 obtain ⟨h1,h2,h3⟩:=wsJ_in at_ v _ _ (fun p hp=>pcs_le_all (rs.drop sy) p hp) x (List.mem_of_mem_take hx)
 exact ⟨by omega,h3⟩
theorem JL.full (h:JL N at_ n v lf rs sy D) (hat:at_+n≤N) (hn:n≤60):cutP (fun _=>256) D.und 0=D.und:=cutP_full _ (fun _=>rfl) _ _ (fun x hx=>((h.und_in hat hn).1 x hx).2)
theorem JL.start (hok:D.ok) (hn:D.n=N) (hu:D.und=[]) (ht:∀ j,j<n→getB ((D.sec (at_+j)).drop 248) 8<(zAz v j:Nat)):JL N at_ n v D.life [] 0 D:=
 ⟨hok,hn,rfl,by simp,fun r hr=>by simp at hr,Nat.le_refl _,fun j p hj=>by simp at hj,fun j _ hj=>ht j hj,⟨0,by rw [hu];rfl,fun _=>Nat.le_refl _⟩⟩
theorem JL.now (h:JL N at_ n v lf rs sy D) (ho:D.off=false) (hv:1≤v∧v≤1099511627776) (hat:at_+n≤N) (hn:n≤60):rpGo D at_ (n:Nat) v (((n:Nat):Int).toNat+1) 0 []=rs:=by
 obtain ⟨s1,s2,s3⟩:=h.seen hv.2 hat hn (fun _=>256) (fun _=>Nat.le_refl _)
 obtain ⟨m,m1,m2,m3,m4⟩:=seen_read (D:=D) s1 hv hn h.fit h.small h.syl (fun j hj=>by
  have hhas:D.has ((at_+j:Nat):Int)=true:=by unfold Dsk.has;exact decide_eq_true (by rw [h.n40];omega)
  have hE:D.readE ((at_+j:Nat):Int)=0:=by unfold Dsk.readE;rw [ho,hhas];rfl
  have hS:D.readS ((at_+j:Nat):Int)=D.rd (at_+j):=by unfold Dsk.readS;rw [ho,hhas];rfl
  have hl:=h.ok.len
  rw [h.n40] at hl
  refine ⟨hE,?_⟩
  show D.readS ((at_+j:Nat):Int)=_
  rw [hS,h.full hat hn]
  exact rd_lay D.img N (at_+j) (by omega) hl D.und (h.und_in hat hn).1)
 rw [m3,m4 (s2 (fun _=>rfl) ho)]
 exact List.take_length
theorem JL.append (h:JL N at_ n v lf rs sy D) (ho:D.off=false) (hat:at_+n≤N) (_:n≤60) (r:List UInt8) (hr:r.length≤14040) (hfit:(rs.flatMap pcsJ).length+(pcsJ r).length≤n) :
 JL N at_ n v lf (rs++[r]) sy (apGo at_ v (rs.flatMap pcsJ).length (pcsJ r) 0 D).2∧(apGo at_ v (rs.flatMap pcsJ).length (pcsJ r) 0 D).2.off=!(apGo at_ v (rs.flatMap pcsJ).length (pcsJ r) 0 D).1:=by
 obtain ⟨w1,w2,w3,w4,w5⟩:=ap_ways at_ v (rs.flatMap pcsJ).length (pcsJ r) 0 D ho h.ok (pcsJ_le r) (by rw [h.n40];omega)
 obtain ⟨m,hu,hm⟩:=h.und
 have hm:=hm ho
 have hsp:=congrArg List.length (JL.split rs sy)
 rw [List.length_append] at hsp
 have htk:(rs++[r]).take sy=rs.take sy:=List.take_append_of_le_length h.syl
 have hdr:((rs++[r]).drop sy).flatMap pcsJ=(rs.drop sy).flatMap pcsJ++pcsJ r:=by
  rw [List.drop_append_of_le_length h.syl,List.flatMap_append]
  simp
 rw [List.take_of_length_le (by rw [wsJ_length];exact hm)] at hu
 have hws:wsJ at_ v ((rs.take sy).flatMap pcsJ).length ((rs.drop sy).flatMap pcsJ++pcsJ r)=D.und++wsJ at_ v (rs.flatMap pcsJ).length (pcsJ r):=by rw [wsJ_app,← hu,← hsp]
 have hul:D.und.length=((rs.drop sy).flatMap pcsJ).length:=by rw [hu,wsJ_length]
 obtain ⟨A,hA⟩:∃ A,A=apGo at_ v (rs.flatMap pcsJ).length (pcsJ r) 0 D:=⟨_,rfl⟩
 rw [← hA] at w1 w2 w3 w4 w5 ⊢
 rw [Nat.add_zero] at w1
 have hsec:∀ i,A.2.sec i=D.sec i:=fun i=>by unfold Dsk.sec;rw [w2]
 refine ⟨⟨w4,by rw [w3,h.n40],by rw [w5,h.life],by rw [List.flatMap_append,List.length_append];simpa using hfit,fun x hx=>?_,by rw [List.length_append];have:=h.syl;omega,fun j p hj=>?_,fun j hj1 hj2=>?_,?_⟩,?_⟩
 ·rcases List.mem_append.1 hx with hx|hx
  ·exact h.small x hx
  ·simp at hx;rw [hx];exact hr
 ·rw [htk] at hj
  rw [hsec]
  exact h.whole j p hj
 ·rw [htk] at hj1
  rw [hsec]
  exact h.old j hj1 hj2
 ·rw [htk,hdr,hws]
  rcases w1 with ⟨_,b,c⟩|⟨_,b,k,c⟩
  ·refine ⟨D.und.length+(pcsJ r).length,?_,fun _=>by rw [List.length_append,hul];omega⟩
   rw [List.take_of_length_le (by rw [List.length_append,wsJ_length];omega)]
   exact c
  ·refine ⟨D.und.length+k,?_,fun q=>by rw [b] at q;cases q⟩
   rw [List.take_append,List.take_of_length_le (by omega),Nat.add_sub_cancel_left]
   exact c
 ·rcases w1 with ⟨a,b,c⟩|⟨a,b,k,c⟩
  ·rw [a,b];rfl
  ·rw [a,b];rfl
theorem JL.sync (h:JL N at_ n v lf rs sy D) (ho:D.off=false) (hv:v≤1099511627776) (hat:at_+n≤N) (hn:n≤60) :
 (D.flushE=0∧D.flushD.off=false∧JL N at_ n v lf rs rs.length D.flushD)∨(D.flushE=12∧D.flushD.off=true∧JL N at_ n v lf rs sy D.flushD):=by
 obtain ⟨f1,f2,-⟩:=flush_ways ho
 obtain ⟨f3,f4⟩:=fl_off ho
 have hok:=Dsk.flushD_ok h.ok
 rcases f1 with ⟨a,b,c,d⟩|⟨a,b,c⟩
 ·obtain ⟨s1,s2,s3⟩:=h.seen hv hat hn (fun _=>256) (fun _=>Nat.le_refl _)
  rw [h.full hat hn] at s1 s2 s3
  have hsec:∀ i,D.flushD.sec i=cut (zBx D.img D.und) (i*256) 256:=fun i=>by unfold Dsk.sec;rw [d]
  have hold:=h.old
  have hsp:=congrArg List.length (JL.split rs sy)
  rw [List.length_append] at hsp
  refine .inl ⟨a,b,hok,by rw [f2,h.n40],by rw [f4,h.life],h.fit,h.small,Nat.le_refl _,fun j p hj=>?_,fun j hj1 hj2=>?_,⟨0,?_,fun _=>by rw [List.drop_length];exact Nat.le_refl _⟩⟩
  ·rw [List.take_length] at hj
   rw [hsec]
   exact s2 (fun _=>rfl) ho j p hj
  ·rw [List.take_length] at hj1
   rw [hsec,s3 j hj1 hj2]
   exact hold j (by omega) hj2
  ·rw [c];rfl
 ·have hsec:∀ i,D.flushD.sec i=D.sec i:=fun i=>by unfold Dsk.sec;rw [c]
  refine .inr ⟨a,f3 a,hok,by rw [f2,h.n40],by rw [f4,h.life],h.fit,h.small,h.syl,fun j p hj=>by rw [hsec];exact h.whole j p hj,fun j h1 h2=>by rw [hsec];exact h.old j h1 h2,?_⟩
  obtain ⟨m,hu,hm⟩:=h.und
  exact ⟨m,by rw [b];exact hu,fun q=>by rw [f3 a] at q;cases q⟩
theorem JL.crash (h:JL N at_ n v lf rs sy D) (hv:1≤v∧v+1≤1099511627776) (hat:at_+n≤N) (hn:n≤60) (kept:List Bool) (torn bytes:Int) :
 (∃ m,sy≤m∧m≤rs.length∧rpGo (D.crash kept torn bytes) at_ (n:Nat) v (((n:Nat):Int).toNat+1) 0 []=rs.take m)∧(∀ j,j<n→getB (((D.crash kept torn bytes).sec (at_+j)).drop 248) 8≤(zAz v j:Nat))∧
 rpGo (D.crash kept torn bytes) at_ (n:Nat) (v+1) (((n:Nat):Int).toNat+1) 0 []=[]∧(D.crash kept torn bytes).ok∧(D.crash kept torn bytes).n=N:=by
 obtain ⟨s1,-,-⟩:=h.seen (by omega) hat hn (done kept torn bytes) (doneK_le kept torn bytes)
 have hsec:∀ i,(D.crash kept torn bytes).sec i=cut (zBx D.img (cutP (done kept torn bytes) D.und 0)) (i*256) 256:=fun i=>by
  unfold Dsk.sec
  show cut (layDone _ _ _ _ _) _ _=_
  rw [layDone_eq]
 have hok:=Dsk.crash_ok h.ok kept torn bytes
 have hn40:(D.crash kept torn bytes).n=N:=h.n40
 have hcl:(D.crash kept torn bytes).off=false∧(D.crash kept torn bytes).und=[]:=⟨rfl,rfl⟩
 obtain ⟨D2,hD2⟩:∃ D2,D2=D.crash kept torn bytes:=⟨_,rfl⟩
 rw [← hD2] at hok hn40 hcl ⊢
 simp only [← hD2] at hsec
 clear hD2
 have hrd:∀ j,j<n→D2.readE ((at_:Int)+(j:Nat))=0∧D2.readS ((at_:Int)+(j:Nat))=D2.sec (at_+j):=fun j hj=>by
  have hhas:D2.has ((at_+j:Nat):Int)=true:=by unfold Dsk.has;exact decide_eq_true (by rw [hn40];omega)
  refine ⟨?_,?_⟩
  ·show D2.readE ((at_+j:Nat):Int)=0
   unfold Dsk.readE;rw [hcl.1,hhas];rfl
  ·show D2.readS ((at_+j:Nat):Int)=_
   unfold Dsk.readS Dsk.rd;rw [hcl.1,hhas,hcl.2];rfl
 refine ⟨?_,fun j hj=>by rw [hsec];exact s1.tails j hj,?_,hok,hn40⟩
 ·obtain ⟨m,m1,m2,m3,-⟩:=seen_read (D:=D2) s1 ⟨hv.1,by omega⟩ hn h.fit h.small h.syl (fun j hj=>by
   obtain ⟨a,b⟩:=hrd j hj
   exact ⟨a,by rw [b,hsec]⟩)
  exact ⟨m,m1,m2,m3⟩
 ·have hp:payO D2 at_ (n:Nat) (v+1) 0=none:=by
   unfold payO
   by_cases h0:n=0
   ·rw [if_pos (by omega)]
   ·rw [if_neg (by omega)]
    obtain ⟨a,b⟩:=hrd 0 (by omega)
    rw [a,if_neg (by simp),b,hsec]
    have ht:=s1.tails 0 (by omega)
    exact openS_tail (stamp_lt (by omega) (by omega)) (by unfold zAz at ht ⊢;omega)
  have hr:=recO_none (i:=0) hp
  show (match recO D2 at_ (n:Nat) (v+1) 0 with|none=>[]|some (s,u)=>rpGo D2 at_ (n:Nat) (v+1) ((n:Nat):Int).toNat (0+u.toNat) ([]++[s]))=[]
  rw [hr]
end
end Go.Proofs.YtnkhohfbijkohaaGreatDoor
