/-
  Jou2, Jou3, AreT, JLe1, JLe2.
-/
import Derived.Test.YtgipenahkmbelaaGreatDoorTBZ
import Derived.Test.YtgipenahkmbelaaGreatDoorTBW
set_option maxHeartbeats 64000000
namespace Go.Proofs.YtgipenahkmbelaaGreatDoor
open Go Go.RowKit
abbrev plTCE0:Pl:=(.op 0 (.op 1 (.op 2 (.op 3 (.op 4 (.op 5 (.op 6 (.op 7 (.op 8 (.op 9 (.op 10 (.op 13 (.op 14 (.op 15 (.ef 11 [15,14,13] (.op 12 (.op 16 (.ef 17 [] (.op 18 .nil)))))))))))))))))))
abbrev plTCE1:Pl:=(.op 0 (.op 3 (.op 4 (.op 5 (.ef 1 [5,4,3,0] (.op 2 (.op 6 (.ef 7 [0] (.ef 8 [] (.ef 9 [] .nil))))))))))
abbrev plTCE2:Pl:=(.op 0 (.op 1 (.op 2 (.op 3 (.op 4 (.op 5 (.op 6 (.op 7 (.op 8 (.op 9 (.op 10 (.ef 11 [] (.op 12 (.op 13 (.op 14 (.op 15 (.op 16 .nil)))))))))))))))))
abbrev plTCE3:Pl:=(.op 0 (.op 1 (.op 2 (.op 3 (.op 4 (.op 5 (.op 6 (.op 7 (.op 8 (.op 9 (.op 10 (.op 11 (.op 12 (.op 13 (.op 14 (.op 15 (.op 16 (.op 17 (.ef 18 [] (.op 19 .nil))))))))))))))))))))
abbrev plTCE4:Pl:=(.op 0 (.op 1 (.op 2 (.op 3 (.op 4 (.op 5 (.ef 6 [3,2,1,0] (.op 7 (.op 8 (.op 9 (.ef 10 [] .nil)))))))))))
def chunksJ:Nat→List UInt8→List (List UInt8)
 |0,_=>[]
 |f+1,l=>if l=[] then [] else (0::l.take 233)::chunksJ f (l.drop 233)
def headJ (n:Nat):List UInt8:=[1,UInt8.ofNat (n % 256),UInt8.ofNat (n / 256 % 256),UInt8.ofNat (n / 65536 % 256),UInt8.ofNat (n / 16777216 % 256)]
def pcsJ (r:List UInt8):List (List UInt8):=(headJ r.length++r.take 229)::chunksJ r.length (r.drop 229)
theorem chunksJ_nil (f:Nat):chunksJ f []=[]:=by cases f <;> simp [chunksJ]
theorem chunksJ_cons (f:Nat) (l:List UInt8) (h:l≠[]):chunksJ (f+1) l=(0::l.take 233)::chunksJ f (l.drop 233):=by
 show (if l=[] then _ else _)=_
 rw [if_neg h]
theorem chunksJ_length:∀ (f:Nat) (l:List UInt8),l.length≤233*f→(chunksJ f l).length=(l.length+232) / 233:=by
 intro f
 induction f with
 |zero=>intro l h;have:l=[]:=List.length_eq_zero_iff.1 (by omega);subst this;rfl
 |succ f ih=>
  intro l h
  by_cases h0:l=[]
  ·subst h0;rw [chunksJ_nil];rfl
  ·have hp:=List.length_pos_iff.2 h0
   rw [chunksJ_cons _ _ h0,List.length_cons,ih _ (by rw [List.length_drop];omega),List.length_drop]
   omega
theorem chunksJ_le:∀ (f:Nat) (l:List UInt8),∀ p ∈ chunksJ f l,p.length≤234:=by
 intro f
 induction f with
 |zero=>intro l p hp;cases hp
 |succ f ih=>
  intro l p hp
  by_cases h0:l=[]
  ·subst h0;rw [chunksJ_nil] at hp;cases hp
  ·rw [chunksJ_cons _ _ h0] at hp
   rcases List.mem_cons.1 hp with rfl|hp
   ·rw [List.length_cons,List.length_take];omega
   ·exact ih _ _ hp
theorem pcsJ_length (r:List UInt8):((pcsJ r).length:Int)=costI r.length:=by
 unfold pcsJ costI
 rw [List.length_cons,chunksJ_length _ _ (by rw [List.length_drop];omega),List.length_drop]
 split
 ·omega
 split <;> omega
theorem pcsJ_le (r:List UInt8):∀ p ∈ pcsJ r,p.length≤234:=by
 intro p hp
 unfold pcsJ at hp
 rcases List.mem_cons.1 hp with rfl|hp
 ·rw [List.length_append,List.length_take];show 5+_≤234;omega
 ·exact chunksJ_le _ _ _ hp
theorem byte_val (n k:Nat):IntKind.u8.wrap ((n / k:Nat):Int)=((UInt8.ofNat (n / k % 256)).toNat:Int):=by
 have e:IntKind.u8.wrap ((n / k:Nat):Int)=((n / k:Nat):Int) % 256:=rfl
 rw [e,UInt8.toNat_ofNat']
 omega
theorem byte_val0 (n:Nat):IntKind.u8.wrap ((n:Nat):Int)=((UInt8.ofNat (n % 256)).toNat:Int):=by
 have e:IntKind.u8.wrap ((n:Nat):Int)=((n:Nat):Int) % 256:=rfl
 rw [e,UInt8.toNat_ofNat']
 omega
theorem shr_val (n j:Nat) (hj:j≤24):((n:Nat):Int).fdiv (2 ^ (min ((j:Nat):Int).toNat IntKind.i64.bits))=((n / 2 ^ j:Nat):Int):=by
 have hm:min ((j:Nat):Int).toNat IntKind.i64.bits=j:=by
  show min ((j:Nat):Int).toNat 64=j
  omega
 rw [hm,Int.fdiv_eq_ediv_of_nonneg _ (by exact Int.pow_nonneg (by decide))]
 simp
section
variable {W:World} {E:Nat→Addr} {p g:Nat} {D:Dsk}
set_option maxRecDepth 100000 in
theorem pieces_ct (r:List UInt8) (hl:r.length≤1048576):Ct Tryz.prog W 172 [strV r] [] (fun x:Nat × Nat=>.slice (some ⟨x.1,0,none⟩) (pcsJ r).length x.2) (fun x=>[rowP (.slice (some ⟨x.1,0,none⟩) (pcsJ r).length x.2) 9 1 (pcsJ r).length ((pcsJ r).map strV)]):=by
 obtain ⟨res,hres⟩:∃ res,res=pcsJ r:=⟨_,rfl⟩
 rw [← hres]
 have b0:=byte_val0 r.length
 have b1:=byte_val r.length 256
 have b2:=byte_val r.length 65536
 have b3:=byte_val r.length 16777216
 have s1:((r.length:Nat):Int).fdiv (2 ^ (min (8:Int).toNat IntKind.i64.bits))=((r.length / 256:Nat):Int):=shr_val r.length 8 (by omega)
 have s2:((r.length:Nat):Int).fdiv (2 ^ (min (16:Int).toNat IntKind.i64.bits))=((r.length / 65536:Nat):Int):=shr_val r.length 16 (by omega)
 have s3:((r.length:Nat):Int).fdiv (2 ^ (min (24:Int).toNat IntKind.i64.bits))=((r.length / 16777216:Nat):Int):=shr_val r.length 24 (by omega)
 obtain ⟨c0,hc0⟩:∃ c,c=UInt8.ofNat (r.length % 256):=⟨_,rfl⟩
 obtain ⟨c1,hc1⟩:∃ c,c=UInt8.ofNat (r.length / 256 % 256):=⟨_,rfl⟩
 obtain ⟨c2,hc2⟩:∃ c,c=UInt8.ofNat (r.length / 65536 % 256):=⟨_,rfl⟩
 obtain ⟨c3,hc3⟩:∃ c,c=UInt8.ofNat (r.length / 16777216 % 256):=⟨_,rfl⟩
 have hhead:headJ r.length=[1,c0,c1,c2,c3]:=by rw [hc0,hc1,hc2,hc3];rfl
 rw [← hc0] at b0
 rw [← hc1] at b1
 rw [← hc2] at b2
 rw [← hc3] at b3
 obtain ⟨n1,hn1⟩:∃ m,m=r.length / 256:=⟨_,rfl⟩
 obtain ⟨n2,hn2⟩:∃ m,m=r.length / 65536:=⟨_,rfl⟩
 obtain ⟨n3,hn3⟩:∃ m,m=r.length / 16777216:=⟨_,rfl⟩
 rw [← hn1] at s1 b1
 rw [← hn2] at s2 b2
 rw [← hn3] at s3 b3
 obtain ⟨ct,hct⟩:∃ m,m=min r.length 229:=⟨_,rfl⟩
 have hmin:min (r.length:Int) 229=(ct:Nat):=by omega
 have ht:r.take ((ct:Nat):Int).toNat=r.take 229:=by rw [Int.toNat_natCast,hct];exact List.take_eq_take_iff.2 (by omega)
 have hd:r.drop ((ct:Nat):Int).toNat=r.drop 229:=by
  rw [Int.toNat_natCast,hct]
  by_cases hh:r.length≤229
  ·rw [List.drop_of_length_le (by omega),List.drop_of_length_le (by omega)]
  ·rw [show min r.length 229=229 by omega]
 obtain ⟨r1,hr1⟩:∃ x,x=r.take 229:=⟨_,rfl⟩
 obtain ⟨r2,hr2⟩:∃ x,x=r.drop 229:=⟨_,rfl⟩
 have hr1l:r1.length≤229:=by rw [hr1,List.length_take];omega
 have hr2l:r2.length≤r.length:=by rw [hr2,List.length_drop];omega
 have hall:[[1,c0,c1,c2,c3]++r1]++chunksJ r.length r2=res:=by rw [hres,hr1,hr2,← hhead];rfl
 rw [← hr1] at ht
 rw [← hr2] at hd
 clear hc0 hc1 hc2 hc3 hn1 hn2 hn3 hr1 hr2 hhead hres
 refine Ct.enter Tryz.func172 rfl Tryz.ntmps172 (by simp) (fun R=>?_)
 repeat' (first|(refine zBi ?_;first|(refine zBt rfl xF (by rfl) (by omega) rfl (fun g2=>?_))|(refine KJ_bytes5 (v0:=1) (v1:=c0) (v2:=c1) (v3:=c2) (v4:=c3) rfl rfl rfl rfl rfl rfl (fun g1=>?_)))|(refine zBu ?_;first|refine zAb (Ev_bytesAll (l:=[1,c0,c1,c2,c3]) rfl xS rfl) ?_|refine zAb (zAw rfl b3) ?_|refine zAb (zAw rfl b2) ?_|refine zAb (zAw rfl b1) ?_|refine zAb (zAw rfl b0) ?_)|(refine zCg ?_;first|refine zAb (zCi rfl rfl (by omega) hd) ?_|refine zAb (Ev_sliceStrTo_v rfl rfl (by omega) ht) ?_)|(refine ek_min ?_;refine zAb (Ev_min_v rfl rfl hmin) ?_)|(refine zBh ?_;refine zAb (Ev_addSL rfl rfl) ?_)|(refine ek_shr ?_;first|refine zAb (Ev_shr_w rfl rfl (by omega) s3) ?_|refine zAb (Ev_shr_w rfl rfl (by omega) s2) ?_|refine zAb (Ev_shr_w rfl rfl (by omega) s1) ?_)|refine xst ?_|(refine xsa ?_;intro _)|(refine xsb ?_ ?_ <;>intro _<;>try (exfalso;omega))|refine xsc ?_|(refine zAa (id:=3) plTCE0 (by kernel_rfl) (by kernel_rfl) ?_)|(refine zAa (id:=8) plTCE1 (by kernel_rfl) (by kernel_rfl) ?_)|refine zAp ?_ ?_|refine zAn rfl rfl rfl rfl rfl ?_ ?_|refine zAg ?_ ?_|exact Rech.nil|fail)
 refine KJ.toRow (g:=g2) (m:=1) (size:=1) xS (by rfl) (by unfold maxLen;omega) ?_
 refine zBv (fun i:{s:Nat × List UInt8 × List (List UInt8) × Nat × Nat//s.2.2.1++chunksJ s.1 s.2.1=res∧s.2.1.length≤233*s.1∧s.2.1.length≤1048576∧s.2.2.1.length+s.1≤1048577}=>[(0,strV i.1.2.1),(5,.slice (some ⟨i.1.2.2.2.1,0,none⟩) i.1.2.2.1.length i.1.2.2.2.2)])
  (fun i=>[rowP (.slice (some ⟨i.1.2.2.2.1,0,none⟩) i.1.2.2.1.length i.1.2.2.2.2) 9 1 i.1.2.2.1.length (i.1.2.2.1.map strV)]++R) (fun i=>i.1.1) ⟨(r.length,r2,[[1,c0,c1,c2,c3]++r1],g2,1),hall,by dsimp only;omega,by dsimp only;omega,by dsimp only [List.length];omega⟩ xB (xN) (fun ⟨(f,rest,acc,ga,ca),hr,hf,hrl,hal⟩=>?_)
 dsimp only at hr hf hrl hal ⊢
 by_cases h0:rest=[]
 ·subst h0
  rw [chunksJ_nil,List.append_nil] at hr
  subst hr
  repeat' (first|(refine zBz ?_;refine zAb (Ev_neqS_f rfl rfl rfl) ?_)|refine xst ?_|(refine xsa ?_;intro _)|(refine xsb ?_ ?_ <;>intro _<;>try (exfalso;omega))|refine xsc ?_|(refine zAa (id:=3) plTCE0 (by kernel_rfl) (by kernel_rfl) ?_)|(refine zAa (id:=8) plTCE1 (by kernel_rfl) (by kernel_rfl) ?_)|refine zAp ?_ ?_|refine zAn rfl rfl rfl rfl rfl ?_ ?_|refine zAg ?_ ?_|exact Rech.nil|fail)
  all_goals (exact xdn (ga,ca))
 obtain ⟨f',rfl⟩:∃ f',f=f'+1:=⟨f-1,by have:=List.length_pos_iff.2 h0;omega⟩
 rw [chunksJ_cons _ _ h0] at hr
 obtain ⟨cu,hcu⟩:∃ m,m=min rest.length 233:=⟨_,rfl⟩
 have hmin2:min (rest.length:Int) 233=(cu:Nat):=by omega
 have ht2:rest.take ((cu:Nat):Int).toNat=rest.take 233:=by rw [Int.toNat_natCast,hcu];exact List.take_eq_take_iff.2 (by omega)
 have hd2:rest.drop ((cu:Nat):Int).toNat=rest.drop 233:=by
  rw [Int.toNat_natCast,hcu]
  by_cases hh:rest.length≤233
  ·rw [List.drop_of_length_le (by omega),List.drop_of_length_le (by omega)]
  ·rw [show min rest.length 233=233 by omega]
 obtain ⟨q1,hq1⟩:∃ x,x=rest.take 233:=⟨_,rfl⟩
 obtain ⟨q2,hq2⟩:∃ x,x=rest.drop 233:=⟨_,rfl⟩
 have hq1l:q1.length≤233:=by rw [hq1,List.length_take];omega
 have hq2l:q2.length=rest.length-233:=by rw [hq2,List.length_drop]
 rw [← hq1] at ht2 hr
 rw [← hq2] at hd2 hr
 clear hq1 hq2
 repeat' (first|(refine zBq ?_;refine KJ_append (a2:=0) rfl rfl (by rfl) (by omega) xS (Src.cells (i:=1) xS xC) (by rfl) (by omega) xO (by omega) (by omega) rfl rfl (fun g5 c5=>?_))|(refine zBi ?_;refine zBt rfl xF (by rfl) (by omega) rfl (fun g3=>?_))|(refine zBu ?_;refine zAb (Ev_bytesAll (l:=[0]) rfl xS rfl) ?_)|(refine zCg ?_;first|refine zAb (zCi rfl rfl (by omega) hd2) ?_|refine zAb (Ev_sliceStrTo_v rfl rfl (by omega) ht2) ?_)|(refine ek_min ?_;refine zAb (Ev_min_v rfl rfl hmin2) ?_)|(refine zBh ?_;refine zAb (Ev_addSL rfl rfl) ?_)|(refine zBz ?_;refine zAb (Ev_neqS_t rfl rfl h0) ?_)|refine xst ?_|(refine xsa ?_;intro _)|(refine xsb ?_ ?_ <;>intro _<;>try (exfalso;omega))|refine xsc ?_|(refine zAa (id:=3) plTCE0 (by kernel_rfl) (by kernel_rfl) ?_)|(refine zAa (id:=8) plTCE1 (by kernel_rfl) (by kernel_rfl) ?_)|refine zAp ?_ ?_|refine zAn rfl rfl rfl rfl rfl ?_ ?_|refine zAg ?_ ?_|exact Rech.nil|fail)
 refine zAv ⟨(f',q2,acc++[0::q1],g5,c5),by dsimp only;rw [List.append_assoc];exact hr,by dsimp only;omega,by dsimp only;omega,by dsimp only;rw [List.length_append];show acc.length+1+f'≤_;omega⟩ (by show f'<f'+1;omega) ?_ ?_
 ·dsimp only
  rw [List.length_append]
  exact xB
 ·have em:acc.map strV++[strV (0::q1)]=(acc++[0::q1]).map strV:=by simp
  dsimp only
  rw [← em,List.length_append]
  exact (xN)
def apGo (at_:Int) (ver used:Nat):List (List UInt8)→Nat→Dsk→Bool × Dsk
 |[],_,D=>(true,D)
 |pc::rest,i,D=>if D.writeE (at_+(used:Nat)+(i:Nat)) (zBs (stampN ver (used+i):Nat) pc)≠0 then (false,D.writeD (at_+(used:Nat)+(i:Nat)) (zBs (stampN ver (used+i):Nat) pc))
  else apGo at_ ver used rest (i+1) (D.writeD (at_+(used:Nat)+(i:Nat)) (zBs (stampN ver (used+i):Nat) pc))
set_option maxRecDepth 100000 in
theorem append_ct (hE:ErrsOn L8 W E) (e17:W.cell? ⟨5,0,none⟩=some (errV E 17)) (hN:NibAt W) (at_ n life:Int) (ver used:Nat) (r:List UInt8) (_:D.n≤65536) (hdn:downB D life false=false) (hnb:0≤n∧n≤65536) (hu:(used:Int)≤n) (hl:r.length≤1048576) (hfit:costI r.length≤n-used) (hat:0≤at_∧at_≤65536) (hver:1≤ver∧ver≤1099511627776) (hul:D.und.length+65536<1073741823) :
 Ct Tryz.prog W 125 [.pointer (some ⟨g,0,none⟩),strV r] [DiskP p D,zAh g [.pointer (some ⟨p,0,none⟩),.int .i64 at_,.int .i64 n,.int .i64 ver,.int .i64 used,.int .i64 life,.bool false] 205] (fun _:Unit=>errV E (if (apGo at_ ver used (pcsJ r) 0 D).1 then 0 else 12))
  (fun _=>[DiskP p (apGo at_ ver used (pcsJ r) 0 D).2,zAh g [.pointer (some ⟨p,0,none⟩),.int .i64 at_,.int .i64 n,.int .i64 ver,.int .i64 (if (apGo at_ ver used (pcsJ r) 0 D).1 then (used:Int)+costI r.length else used),.int .i64 life,.bool (!(apGo at_ ver used (pcsJ r) 0 D).1)] 205]):=by
 have e12:W.cell? ⟨3,0,none⟩=some (errV E 12):=hE.at_ 12 (by decide)
 have _:=e17
 have c1:=down_ct (W:=W) (p:=p) (g:=g) (D:=D) at_ n ver used life false
 rw [hdn] at c1
 have c2:=fits_ct (W:=W) (p:=p) (g:=g) at_ n ver used life false r.length (by omega) hnb (by omega)
 rw [show decide (0≤(r.length:Int)∧costI r.length≤n-used)=true from decide_eq_true ⟨by omega,hfit⟩] at c2
 have c3:=pieces_ct (W:=W) r hl
 have c4:=cost_ct (W:=W) r.length (by omega)
 have hL:=pcsJ_length r
 have hLe:=pcsJ_le r
 obtain ⟨co,hco⟩:∃ c,c=costI r.length:=⟨_,rfl⟩
 obtain ⟨ps,hps⟩:∃ ps,ps=pcsJ r:=⟨_,rfl⟩
 rw [← hco] at hL hfit c4 ⊢
 rw [← hps] at hL hLe c3 ⊢
 clear hco hps
 obtain ⟨res,hres⟩:∃ res,res=apGo at_ ver used ps 0 D:=⟨_,rfl⟩
 rw [← hres]
 refine Ct.enter Tryz.func125 rfl Tryz.ntmps125 (by simp) (fun R=>?_)
 repeat' (first|(refine zAd ?_;first|(refine zAc xE c3 xP rfl (fun x=>?_))|(refine zAc xE c2 xP rfl (fun _=>?_))|(refine zAc xE c1 xP rfl (fun _=>?_)))|refine xst ?_|(refine xsa ?_;intro _)|(refine xsb ?_ ?_ <;>intro _<;>try (exfalso;omega))|refine xsc ?_|(refine zAa (id:=8) plTCE2 (by kernel_rfl) (by kernel_rfl) ?_)|(refine zAa (id:=10) plTCE3 (by kernel_rfl) (by kernel_rfl) ?_)|(refine zAa (id:=14) plTCE4 (by kernel_rfl) (by kernel_rfl) ?_)|refine zAp ?_ ?_|refine zAn rfl rfl rfl rfl rfl ?_ ?_|refine zAg ?_ ?_|exact Rech.nil|fail)
 rename_i x
 refine zBv (fun i:{s:Nat × Dsk//apGo at_ ver used (ps.drop s.1) s.1 s.2=res∧s.1≤ps.length∧s.2.und.length≤D.und.length+s.1}=>[(0,.pointer (some ⟨g,0,none⟩)),(1,strV r),(21,.slice (some ⟨x.1,0,none⟩) ps.length x.2),(22,.int .i64 (ps.length:Nat)),(23,.int .i64 (i.1.1:Nat))])
  (fun i=>[DiskP p i.1.2,zAh g [.pointer (some ⟨p,0,none⟩),.int .i64 at_,.int .i64 n,.int .i64 ver,.int .i64 used,.int .i64 life,.bool false] 205,rowP (.slice (some ⟨x.1,0,none⟩) ps.length x.2) 9 1 ps.length (ps.map strV)]++R) (fun i=>ps.length-i.1.1) ⟨(0,D),hres.symm,Nat.zero_le _,Nat.le_refl _⟩ xB (xN) (fun ⟨(k,Dk),hr,hk,hu2⟩=>?_)
 dsimp only at hr hk hu2 ⊢
 by_cases hlt:k<ps.length
 rotate_left
 ·have hkl:k=ps.length:=by omega
  subst hkl
  rw [List.drop_length] at hr
  have ql:decide ((ps.length:Int)<(ps.length:Int))=false:=decide_eq_false (by omega)
  have h1:res.1=true:=by rw [← hr];rfl
  have h2:res.2=Dk:=by rw [← hr];rfl
  rw [h1,h2]
  repeat' (first|(refine zAd ?_;refine zAc xE c4 xP rfl (fun _=>?_))|(refine zBh ?_;refine zAb (zAi (r:=(used:Int)+co) rfl rfl rfl (by omega)) ?_)|(refine zAq ?_;refine zAb (zAe rfl rfl ql) ?_)|refine xst ?_|(refine xsa ?_;intro _)|(refine xsb ?_ ?_ <;>intro _<;>try (exfalso;omega))|refine xsc ?_|(refine zAa (id:=8) plTCE2 (by kernel_rfl) (by kernel_rfl) ?_)|(refine zAa (id:=10) plTCE3 (by kernel_rfl) (by kernel_rfl) ?_)|(refine zAa (id:=14) plTCE4 (by kernel_rfl) (by kernel_rfl) ?_)|refine zAp ?_ ?_|refine zAn rfl rfl rfl rfl rfl ?_ ?_|refine zAg ?_ ?_|exact Rech.nil|fail)
  all_goals (exact xdn ())
 have ql:decide ((k:Int)<(ps.length:Int))=true:=decide_eq_true (by omega)
 obtain ⟨pc,hpc⟩:∃ pc,ps[k]? = some pc:=⟨_,List.getElem?_eq_getElem hlt⟩
 have hpl:=hLe pc (List.mem_of_getElem? hpc)
 have hdr:ps.drop k=pc::ps.drop (k+1):=by
  rw [List.drop_eq_getElem_cons hlt]
  congr 1
  exact (List.getElem?_eq_some_iff.1 hpc).2
 have hget:(ps.map strV)[0+((k:Nat):Int).toNat*1]? = some (strV pc):=by rw [Int.toNat_natCast,Nat.mul_one,Nat.zero_add,List.getElem?_map,hpc];rfl
 have hcast:((used+k:Nat):Int)=(used:Int)+(k:Int):=by omega
 have c5:=log_ct (W:=W) ver (used+k) hver (by omega)
 have c6:=seal_ok hN (stampN ver (used+k):Nat) pc (by unfold stampN;omega) hpl
 have c7:=write_ct (W:=W) (p:=p) (D:=Dk) hE (at_+(used:Nat)+(k:Nat)) (zBs (stampN ver (used+k):Nat) pc) (by omega)
 have hunf:apGo at_ ver used (pc::ps.drop (k+1)) k Dk=if Dk.writeE (at_+(used:Nat)+(k:Nat)) (zBs (stampN ver (used+k):Nat) pc)≠0 then (false,Dk.writeD (at_+(used:Nat)+(k:Nat)) (zBs (stampN ver (used+k):Nat) pc))
  else apGo at_ ver used (ps.drop (k+1)) (k+1) (Dk.writeD (at_+(used:Nat)+(k:Nat)) (zBs (stampN ver (used+k):Nat) pc)):=rfl
 rw [hdr,hunf] at hr
 have hu3:=writeD_und Dk (at_+(used:Nat)+(k:Nat)) (zBs (stampN ver (used+k):Nat) pc)
 obtain ⟨stm,hst⟩:∃ m,m=stampN ver (used+k):=⟨_,rfl⟩
 rw [← hst] at c5 c6 c7 hr hu3
 obtain ⟨raw,hraw⟩:∃ m,m=zBs (stm:Nat) pc:=⟨_,rfl⟩
 rw [← hraw] at c6 c7 hr hu3
 obtain ⟨D1,hD1⟩:∃ D1,D1=Dk.writeD (at_+(used:Nat)+(k:Nat)) raw:=⟨_,rfl⟩
 rw [← hD1] at c7 hr hu3
 obtain ⟨e,he⟩:∃ e,e=Dk.writeE (at_+(used:Nat)+(k:Nat)) raw:=⟨_,rfl⟩
 rw [← he] at c7 hr
 clear hst hraw hD1 he hunf hres hdr hpc
 by_cases hz:e=0
 ·subst hz
  rw [if_neg (by simp)] at hr
  have c7':Ct Tryz.prog W 135 [.pointer (some ⟨p,0,none⟩),.int .i64 (at_+(used:Nat)+(k:Nat)),strV raw] [DiskP p Dk] (fun _:Unit=>.nilIface) (fun _=>[DiskP p D1]):=c7
  repeat' (first|(refine zAd ?_;first|(refine zAc xE c7' xP rfl (fun _=>?_))|(refine zAc xE c6 xP rfl (fun _=>?_))|(refine zAc xE c5 xP rfl (fun _=>?_)))|(refine zAm ?_;refine zAb (Ev_loadRow rfl xS hget) ?_)|(refine zBh ?_;first|refine zAb (zAi (r:=((k+1:Nat):Int)) rfl rfl (by omega) (by omega)) ?_|refine zAb (zAi (r:=((used+k:Nat):Int)) rfl rfl hcast.symm (by omega)) ?_)|(refine zAq ?_;refine zAb (zAe rfl rfl ql) ?_)|refine xst ?_|(refine xsa ?_;intro _)|(refine xsb ?_ ?_ <;>intro _<;>try (exfalso;omega))|refine xsc ?_|(refine zAa (id:=8) plTCE2 (by kernel_rfl) (by kernel_rfl) ?_)|(refine zAa (id:=10) plTCE3 (by kernel_rfl) (by kernel_rfl) ?_)|(refine zAa (id:=14) plTCE4 (by kernel_rfl) (by kernel_rfl) ?_)|refine zAp ?_ ?_|refine zAn rfl rfl rfl rfl rfl ?_ ?_|refine zAg ?_ ?_|exact Rech.nil|fail)
  all_goals exact zAv ⟨(k+1,D1),hr,by dsimp only;omega,by dsimp only;omega⟩ (by show ps.length-(k+1)<ps.length-k;omega) xB (xN)
 ·rw [if_pos hz] at hr
  have h1:res.1=false:=by rw [← hr]
  have h2:res.2=D1:=by rw [← hr]
  rw [h1,h2]
  obtain ⟨ea,hea⟩:=errV_ne (E:=E) hz
  rw [hea] at c7
  repeat' (first|(refine zAd ?_;first|(refine zAc xE c7 xP rfl (fun _=>?_))|(refine zAc xE c6 xP rfl (fun _=>?_))|(refine zAc xE c5 xP rfl (fun _=>?_)))|(refine zAm ?_;first|refine zAb (zAt rfl e12) ?_|refine zAb (Ev_loadRow rfl xS hget) ?_)|(refine zBh ?_;first|refine zAb (zAi (r:=((k+1:Nat):Int)) rfl rfl (by omega) (by omega)) ?_|refine zAb (zAi (r:=((used+k:Nat):Int)) rfl rfl hcast.symm (by omega)) ?_)|(refine zAq ?_;refine zAb (zAe rfl rfl ql) ?_)|refine xst ?_|(refine xsa ?_;intro _)|(refine xsb ?_ ?_ <;>intro _<;>try (exfalso;omega))|refine xsc ?_|(refine zAa (id:=8) plTCE2 (by kernel_rfl) (by kernel_rfl) ?_)|(refine zAa (id:=10) plTCE3 (by kernel_rfl) (by kernel_rfl) ?_)|(refine zAa (id:=14) plTCE4 (by kernel_rfl) (by kernel_rfl) ?_)|refine zAp ?_ ?_|refine zAn rfl rfl rfl rfl rfl ?_ ?_|refine zAg ?_ ?_|exact Rech.nil|fail)
  all_goals (exact xdn ())
end
end Go.Proofs.YtgipenahkmbelaaGreatDoor
namespace Go.Proofs.YtgipenahkmbelaaGreatDoor
open Go Go.RowKit
def payO (D:Dsk) (at_ n:Int) (ver i:Nat):Option (List UInt8):=if n≤(i:Int) then none else if D.readE (at_+(i:Nat))≠0 then none else openS (stampN ver i:Nat) (D.readS (at_+(i:Nat)))
def sizeGo (q:List UInt8):Nat→Int
 |0=>0
 |k+1=>bits .or .i64 (sizeGo q k) (IntKind.i64.wrap (((q.getD (1+k) 0).toNat:Int)*2 ^ (min (8*(k:Int)).toNat IntKind.i64.bits)))
def recGo (D:Dsk) (at_ n:Int) (ver i:Nat) (size:Int):Nat→Nat→List UInt8→Option (List UInt8)
 |0,_,out=>some out
 |f+1,k,out=>match payO D at_ n ver (i+k) with
  |none=>none
  |some q=>if (q.length:Int)≠1+min (size-out.length) 233 then none else if q.getD 0 0≠0 then none else recGo D at_ n ver i size f (k+1) (out++q.drop 1)
def recO (D:Dsk) (at_ n:Int) (ver i:Nat):Option (List UInt8 × Int):=
 match payO D at_ n ver i with
 |none=>none
 |some q=>if q.length<5 then none else if q.getD 0 0≠1 then none else if n-(i:Int)<costI (sizeGo q 4) then none else if ((q.drop 5).length:Int)≠min (sizeGo q 4) 229 then none else
  match recGo D at_ n ver i (sizeGo q 4) (costI (sizeGo q 4)-1).toNat 1 (q.drop 5) with
  |none=>none
  |some s=>some (s,costI (sizeGo q 4))
def rpGo (D:Dsk) (at_ n:Int) (ver:Nat):Nat→Nat→List (List UInt8)→List (List UInt8)
 |0,_,acc=>acc
 |f+1,i,acc=>match recO D at_ n ver i with
  |none=>acc
  |some (s,u)=>rpGo D at_ n ver f (i+u.toNat) (acc++[s])
theorem i64_range (x:Int):-9223372036854775808≤IntKind.i64.wrap x∧IntKind.i64.wrap x≤9223372036854775807:=by
 have:IntKind.i64.wrap x=if x % 18446744073709551616≥9223372036854775808 then x % 18446744073709551616-18446744073709551616 else x % 18446744073709551616:=by
  simp [IntKind.wrap,IntKind.signed,IntKind.bits]
 rw [this]
 split <;> omega
theorem sizeGo_range (q:List UInt8) (k:Nat):-9223372036854775808≤sizeGo q k∧sizeGo q k≤9223372036854775807:=by
 cases k with
 |zero=>exact ⟨by show (-9223372036854775808:Int)≤0;omega,by show (0:Int)≤_;omega⟩
 |succ k=>
  show _≤bits .or .i64 _ _∧bits .or .i64 _ _≤_
  exact i64_range _
theorem recO_some {D:Dsk} {at_ n:Int} {ver i:Nat} {s:List UInt8} {u:Int} (h:recO D at_ n ver i=some (s,u)):1≤u∧u≤n-(i:Int):=by
 unfold recO at h
 split at h
 ·cases h
 split at h
 ·cases h
 split at h
 ·cases h
 split at h
 ·cases h
 split at h
 ·cases h
 split at h
 ·cases h
 rename_i q hq h5 h6 h1 h2 x s' hs'
 simp only [Option.some.injEq,Prod.mk.injEq] at h
 obtain ⟨-,rfl⟩:=h
 refine ⟨?_,by omega⟩
 unfold costI
 split
 ·rw [List.length_drop] at h2;omega
 split <;> omega
section
variable {W:World} {E:Nat→Addr} {p g:Nat} {D:Dsk}
theorem payload_ct (hE:ErrsOn L8 W E) (hN:NibAt W) (at_ n:Int) (ver i:Nat) (hat:0≤at_∧at_≤65536) (hn:n≤65536) (hver:1≤ver∧ver≤1099511627776) (hi:i≤131072):Ct Tryz.prog W 182 [.agg #[.pointer (some ⟨p,0,none⟩),.int .i64 at_,.int .i64 n,.int .i64 (ver:Nat)],.int .i64 (i:Nat)] [DiskP p D] (fun _:Unit=>.tuple #[strV ((payO D at_ n ver i).getD []),.bool (payO D at_ n ver i).isSome]) (fun _=>[DiskP p D]):=by
 by_cases h1:n≤(i:Int)
 ·have q1:decide (n≤(i:Int))=true:=decide_eq_true h1
  rw [show payO D at_ n ver i=none from if_pos h1]
  refine Ct.enter Tryz.func182 rfl Tryz.ntmps182 (by simp) (fun R=>?_)
  repeat' (first|(refine zBe ?_;refine zBb rfl xF rfl (fun g1=>?_))|(refine ek_geq ?_;refine zAb (zBk rfl rfl q1) ?_)|refine xst ?_|(refine xsa ?_;intro _)|(refine xsb ?_ ?_ <;>intro _<;>try (exfalso;omega))|refine xsc ?_|fail)
  all_goals (exact xdn ())
 have q1:decide (n≤(i:Int))=false:=decide_eq_false h1
 have c1:=log_ct (W:=W) ver i hver (by omega)
 have c2:=read_ct (W:=W) (p:=p) (D:=D) hE (at_+(i:Nat))
 have c3:=open_ct (W:=W) hN (stampN ver i:Nat) (D.readS (at_+(i:Nat)))
 obtain ⟨stm,hst⟩:∃ m,m=stampN ver i:=⟨_,rfl⟩
 rw [show payO D at_ n ver i=_ from if_neg h1,← hst]
 rw [← hst] at c1 c3
 obtain ⟨raw,hraw⟩:∃ m,m=D.readS (at_+(i:Nat)):=⟨_,rfl⟩
 obtain ⟨e,he⟩:∃ m,m=D.readE (at_+(i:Nat)):=⟨_,rfl⟩
 rw [← hraw,← he]
 rw [← hraw] at c2 c3
 rw [← he] at c2
 clear hst hraw he
 by_cases hz:e=0
 ·subst hz
  rw [if_neg (by simp)]
  have c2':Ct Tryz.prog W 89 [.pointer (some ⟨p,0,none⟩),.int .i64 (at_+(i:Nat))] [DiskP p D] (fun _:Unit=>.tuple #[strV raw,.nilIface]) (fun _=>[DiskP p D]):=c2
  refine Ct.enter Tryz.func182 rfl Tryz.ntmps182 (by simp) (fun R=>?_)
  repeat' (first|(refine zBe ?_;refine zBb rfl xF rfl (fun g1=>?_))|(refine zAd ?_;first|(refine zAc xE c3 xP rfl (fun _=>?_))|(refine zAc xE c2' xP rfl (fun _=>?_))|(refine zAc xE c1 xP rfl (fun _=>?_)))|(refine ek_geq ?_;refine zAb (zBk rfl rfl q1) ?_)|refine xst ?_|(refine xsa ?_;intro _)|(refine xsb ?_ ?_ <;>intro _<;>try (exfalso;omega))|refine xsc ?_|fail)
  all_goals (exact xdn ())
 ·rw [if_pos hz]
  obtain ⟨ea,hea⟩:=errV_ne (E:=E) hz
  rw [hea] at c2
  refine Ct.enter Tryz.func182 rfl Tryz.ntmps182 (by simp) (fun R=>?_)
  repeat' (first|(refine zBe ?_;refine zBb rfl xF rfl (fun g1=>?_))|(refine zAd ?_;first|(refine zAc xE c2 xP rfl (fun _=>?_))|(refine zAc xE c1 xP rfl (fun _=>?_)))|(refine ek_geq ?_;refine zAb (zBk rfl rfl q1) ?_)|refine xst ?_|(refine xsa ?_;intro _)|(refine xsb ?_ ?_ <;>intro _<;>try (exfalso;omega))|refine xsc ?_|fail)
  all_goals (exact xdn ())
def recV (o:Option (List UInt8 × Int)):Value:=match o with
 |none=>.tuple #[strV [],.int .i64 0,.bool false]
 |some (s,u)=>.tuple #[strV s,.int .i64 u,.bool true]
set_option maxRecDepth 100000 in
theorem record_ct (hE:ErrsOn L8 W E) (hN:NibAt W) (at_ n:Int) (ver i:Nat) (hat:0≤at_∧at_≤65536) (hn:n≤65536) (hver:1≤ver∧ver≤1099511627776) (hi:(i:Int)≤n):Ct Tryz.prog W 145 [.agg #[.pointer (some ⟨p,0,none⟩),.int .i64 at_,.int .i64 n,.int .i64 (ver:Nat)],.int .i64 (i:Nat)] [DiskP p D] (fun _:Unit=>recV (recO D at_ n ver i)) (fun _=>[DiskP p D]):=by
 have c1:=payload_ct (p:=p) (D:=D) hE hN at_ n ver i hat hn hver (by omega)
 have cp:=fun k (hk:(i:Int)+(k:Nat)≤131072)=>payload_ct (p:=p) (D:=D) hE hN at_ n ver (i+k) hat hn hver (by omega)
 obtain ⟨res,hres⟩:∃ res,res=recO D at_ n ver i:=⟨_,rfl⟩
 rw [← hres]
 unfold recO at hres
 obtain ⟨o,ho⟩:∃ o,o=payO D at_ n ver i:=⟨_,rfl⟩
 rw [← ho] at c1 hres
 clear ho
 cases o with
 |none=>
  subst hres
  have c1':Ct Tryz.prog W 182 [.agg #[.pointer (some ⟨p,0,none⟩),.int .i64 at_,.int .i64 n,.int .i64 (ver:Nat)],.int .i64 (i:Nat)] [DiskP p D] (fun _:Unit=>.tuple #[strV [],.bool false]) (fun _=>[DiskP p D]):=c1
  show Ct _ _ _ _ _ (fun _:Unit=>.tuple #[strV [],.int .i64 0,.bool false]) _
  refine Ct.enter Tryz.func145 rfl Tryz.ntmps145 (by simp) (fun R=>?_)
  repeat' (first|(refine zBe ?_;refine zBb rfl xF rfl (fun g2=>?_))|(refine zAd ?_;refine zAc xE c1' xP rfl (fun _=>?_))|refine xst ?_|(refine xsa ?_;intro _)|(refine xsb ?_ ?_ <;>intro _<;>try (exfalso;omega))|refine xsc ?_|fail)
  all_goals (exact xdn ())
 |some q=>
  dsimp only at hres
  have c1':Ct Tryz.prog W 182 [.agg #[.pointer (some ⟨p,0,none⟩),.int .i64 at_,.int .i64 n,.int .i64 (ver:Nat)],.int .i64 (i:Nat)] [DiskP p D] (fun _:Unit=>.tuple #[strV q,.bool true]) (fun _=>[DiskP p D]):=c1
  clear c1
  by_cases h5:q.length<5
  ·rw [if_pos h5] at hres
   subst hres
   have q5:decide ((q.length:Int)<5)=true:=decide_eq_true (by omega)
   show Ct _ _ _ _ _ (fun _:Unit=>.tuple #[strV [],.int .i64 0,.bool false]) _
   refine Ct.enter Tryz.func145 rfl Tryz.ntmps145 (by simp) (fun R=>?_)
   repeat' (first|(refine zBe ?_;refine zBb rfl xF rfl (fun g2=>?_))|(refine zAd ?_;refine zAc xE c1' xP rfl (fun _=>?_))|(refine zAq ?_;refine zAb (zAe rfl rfl q5) ?_)|refine xst ?_|(refine xsa ?_;intro _)|(refine xsb ?_ ?_ <;>intro _<;>try (exfalso;omega))|refine xsc ?_|fail)
   all_goals (exact xdn ())
  rw [if_neg h5] at hres
  have q5:decide ((q.length:Int)<5)=false:=decide_eq_false (by omega)
  obtain ⟨c0,hc0⟩:∃ c,q[(0:Int).toNat]? = some c:=⟨_,List.getElem?_eq_getElem (by show 0<q.length;omega)⟩
  have hg0:q.getD 0 0=c0:=by rw [List.getD];rw [show q[0]? = some c0 from hc0];rfl
  rw [hg0] at hres
  by_cases h6:c0=1
  rotate_left
  ·rw [if_pos h6] at hres
   subst hres
   have h6':((c0.toNat:Nat):Int)≠1:=by
    intro e
    apply h6
    apply UInt8.toNat_inj.1
    show c0.toNat=1
    omega
   show Ct _ _ _ _ _ (fun _:Unit=>.tuple #[strV [],.int .i64 0,.bool false]) _
   refine Ct.enter Tryz.func145 rfl Tryz.ntmps145 (by simp) (fun R=>?_)
   repeat' (first|(refine zBe ?_;refine zBb rfl xF rfl (fun g2=>?_))|(refine zAd ?_;refine zAc xE c1' xP rfl (fun _=>?_))|(refine ek_index ?_;refine zAb (Ev_indexStr rfl rfl (by omega) hc0) ?_)|(refine zBz ?_;refine zAb (Ev_neqI_t rfl rfl h6') ?_)|(refine zAq ?_;refine zAb (zAe rfl rfl q5) ?_)|refine xst ?_|(refine xsa ?_;intro _)|(refine xsb ?_ ?_ <;>intro _<;>try (exfalso;omega))|refine xsc ?_|fail)
   all_goals (exact xdn ())
  rw [if_neg (by simpa using h6)] at hres
  have h6':((c0.toNat:Nat):Int)=1:=by rw [h6];rfl
  refine Ct.enter Tryz.func145 rfl Tryz.ntmps145 (by simp) (fun R=>?_)
  repeat' (first|(refine zBe ?_;refine zBb rfl xF rfl (fun g2=>?_))|(refine zAd ?_;refine zAc xE c1' xP rfl (fun _=>?_))|(refine ek_index ?_;refine zAb (Ev_indexStr rfl rfl (by omega) hc0) ?_)|(refine zBz ?_;refine zAb (zCh rfl rfl h6') ?_)|(refine zAq ?_;refine zAb (zAe rfl rfl q5) ?_)|refine xst ?_|(refine xsa ?_;intro _)|(refine xsb ?_ ?_ <;>intro _<;>try (exfalso;omega))|refine xsc ?_|fail)
  refine zBv (fun k:{k:Nat//k≤4}=>[(1,.int .i64 (i:Nat)),(2,.pointer (some ⟨g2,0,none⟩)),(7,strV q),(9,.int .i64 (sizeGo q k.1)),(32,.int .i64 (k.1:Nat))]) (fun _=>[DiskP p D,zAh g2 [.pointer (some ⟨p,0,none⟩),.int .i64 at_,.int .i64 n,.int .i64 (ver:Nat)] 203]++R) (fun k=>4-k.1) ⟨0,by omega⟩ xB (xN) (fun ⟨k,hk⟩=>?_)
  dsimp only
  by_cases hlt:k<4
  ·have ql:decide ((k:Int)<4)=true:=decide_eq_true (by omega)
   obtain ⟨c,hc⟩:∃ c,q[((k+1:Nat):Int).toNat]? = some c:=⟨_,List.getElem?_eq_getElem (by omega)⟩
   have hgc:q.getD (1+k) 0=c:=by
    rw [show ((k+1:Nat):Int).toNat=1+k by omega] at hc
    rw [List.getD,hc];rfl
   have hcb:=UInt8.toNat_lt c
   obtain ⟨sh,hsh⟩:∃ sh,IntKind.i64.wrap ((c.toNat:Int)*2 ^ (min (8*(k:Int)).toNat IntKind.i64.bits))=sh:=⟨_,rfl⟩
   have hor:bits .or .i64 (sizeGo q k) sh=sizeGo q (k+1):=by rw [← hsh,← hgc];rfl
   repeat' (first|(refine zBu ?_;refine zAb (Ev_convI64 rfl (by omega)) ?_)|(refine ek_index ?_;refine zAb (Ev_indexStr rfl rfl (by omega) hc) ?_)|(refine zBh ?_;refine zAb (zAi (r:=((k+1:Nat):Int)) rfl rfl (by omega) (by omega)) ?_)|(refine ek_or ?_;refine zAb (Ev_or_w rfl rfl hor) ?_)|(refine ek_shl ?_;refine zAb (Ev_shl_w rfl rfl (by omega) hsh) ?_)|(refine zAq ?_;refine zAb (zAe rfl rfl ql) ?_)|refine xst ?_|(refine xsa ?_;intro _)|(refine xsb ?_ ?_ <;>intro _<;>try (exfalso;omega))|refine xsc ?_|fail)
   all_goals exact zAv ⟨k+1,by omega⟩ (by show 4-(k+1)<4-k;omega) xB (xN)
  have hk4:k=4:=by omega
  subst hk4
  have ql:decide (((4:Nat):Int)<4)=false:=by decide
  have hsz:=sizeGo_range q 4
  obtain ⟨size,hsize⟩:∃ s,s=sizeGo q 4:=⟨_,rfl⟩
  rw [← hsize] at hsz hres ⊢
  clear hsize
  have c2:=cost_ct (W:=W) size hsz.2
  have hcost:costI size=if size<0 then 0 else if size≤229 then 1 else 2+(size-230) / 233:=rfl
  obtain ⟨need,hneed⟩:∃ m,m=costI size:=⟨_,rfl⟩
  rw [← hneed] at c2 hres hcost
  clear hneed
  obtain ⟨q5',hq5⟩:∃ x,q.drop (5:Int).toNat=x:=⟨_,rfl⟩
  rw [show q.drop 5=q5' from hq5] at hres
  have hq5l:q5'.length=q.length-5:=by rw [← hq5];exact List.length_drop
  by_cases h7:n-(i:Int)<need
  ·rw [if_pos h7] at hres
   subst hres
   have q7:decide (n-(i:Int)<need)=true:=decide_eq_true h7
   repeat' (first|(refine zAd ?_;refine zAc xE c2 xP rfl (fun _=>?_))|(refine is_econv ?_;refine KJ_bufOf rfl rfl (fun g3 c3=>?_))|(refine zCg ?_;refine zAb (zCi rfl rfl (by omega) hq5) ?_)|(refine zAq ?_;refine zAb (zAe rfl rfl ql) ?_)|(refine zBf ?_;refine zAb (zAk rfl rfl q7) ?_)|refine xst ?_|(refine xsa ?_;intro _)|(refine xsb ?_ ?_ <;>intro _<;>try (exfalso;omega))|refine xsc ?_|fail)
   all_goals (exact xdn ())
  rw [if_neg h7] at hres
  have q7:decide (n-(i:Int)<need)=false:=decide_eq_false h7
  obtain ⟨mn,hmn⟩:∃ m,min size 229=m:=⟨_,rfl⟩
  rw [hmn] at hres
  by_cases h8:(q5'.length:Int)=mn
  rotate_left
  ·rw [if_pos h8] at hres
   subst hres
   repeat' (first|(refine zAd ?_;refine zAc xE c2 xP rfl (fun _=>?_))|(refine is_econv ?_;refine KJ_bufOf rfl rfl (fun g3 c3=>?_))|(refine zCg ?_;refine zAb (zCi rfl rfl (by omega) hq5) ?_)|(refine ek_min ?_;refine zAb (Ev_min_v rfl rfl hmn) ?_)|(refine zBz ?_;refine zAb (Ev_neqI_t rfl rfl h8) ?_)|(refine zAq ?_;refine zAb (zAe rfl rfl ql) ?_)|(refine zBf ?_;refine zAb (zAk rfl rfl q7) ?_)|refine xst ?_|(refine xsa ?_;intro _)|(refine xsb ?_ ?_ <;>intro _<;>try (exfalso;omega))|refine xsc ?_|fail)
   all_goals (exact xdn ())
  rw [if_neg (by simpa using h8)] at hres
  have hs0:0≤size:=by omega
  have hs1:size≤16777216:=by split at hcost <;> omega
  obtain ⟨ro,hro⟩:∃ ro,ro=recGo D at_ n ver i size (need-1).toNat 1 q5':=⟨_,rfl⟩
  rw [← hro] at hres
  repeat' (first|(refine zAd ?_;refine zAc xE c2 xP rfl (fun _=>?_))|(refine is_econv ?_;refine KJ_bufOf rfl rfl (fun g3 c3=>?_))|(refine zCg ?_;refine zAb (zCi rfl rfl (by omega) hq5) ?_)|(refine ek_min ?_;refine zAb (Ev_min_v rfl rfl hmn) ?_)|(refine zBz ?_;refine zAb (zCh rfl rfl h8) ?_)|(refine zAq ?_;refine zAb (zAe rfl rfl ql) ?_)|(refine zBf ?_;refine zAb (zAk rfl rfl q7) ?_)|refine xst ?_|(refine xsa ?_;intro _)|(refine xsb ?_ ?_ <;>intro _<;>try (exfalso;omega))|refine xsc ?_|fail)
  refine zBv (fun k:{s:Nat × Nat × List UInt8 × Nat × Nat//recGo D at_ n ver i size s.1 s.2.1 s.2.2.1=ro∧(s.1:Int)+s.2.1=max need 1∧1≤s.2.1∧(s.2.2.1.length:Int)=min size (229+233*((s.2.1:Int)-1))}=>[(1,.int .i64 (i:Nat)),(2,.pointer (some ⟨g2,0,none⟩)),(9,.int .i64 size),(11,.int .i64 need),(12,.slice (some ⟨k.1.2.2.2.1,0,none⟩) k.1.2.2.1.length k.1.2.2.2.2),(13,.int .i64 (k.1.2.1:Nat))])
   (fun k=>[DiskP p D,zAh g2 [.pointer (some ⟨p,0,none⟩),.int .i64 at_,.int .i64 n,.int .i64 (ver:Nat)] 203,bufP k.1.2.2.2.1 k.1.2.2.1.length k.1.2.2.2.2 k.1.2.2.1 5]++R) (fun k=>k.1.1) ⟨((need-1).toNat,1,q5',g3,c3),hro.symm,by dsimp only;omega,by dsimp only;omega,by dsimp only;omega⟩ xB (xN) (fun ⟨(fu,k,out,g4,c4),hr,hfk,hk1,hol⟩=>?_)
  dsimp only at hr hfk hk1 hol ⊢
  by_cases hlt2:(k:Int)<need
  rotate_left
  ·have qk:decide ((k:Int)<need)=false:=decide_eq_false hlt2
   have hfu:fu=0:=by omega
   subst hfu
   have hr2:ro=some out:=by rw [← hr];rfl
   rw [hr2] at hres
   subst hres
   repeat' (first|(refine zBu ?_;refine zAb (Ev_bytesBuf rfl xS) ?_)|(refine zAq ?_;refine zAb (zAe rfl rfl qk) ?_)|refine xst ?_|(refine xsa ?_;intro _)|(refine xsb ?_ ?_ <;>intro _<;>try (exfalso;omega))|refine xsc ?_|fail)
   all_goals (exact xdn ())
  have qk:decide ((k:Int)<need)=true:=decide_eq_true hlt2
  obtain ⟨fu',rfl⟩:∃ f',fu=f'+1:=⟨fu-1,by omega⟩
  have hout:(out.length:Int)=229+233*((k:Int)-1)∧(out.length:Int)<size:=by split at hcost <;> omega
  have c6:=cp k (by omega)
  have hunf:recGo D at_ n ver i size (fu'+1) k out=match payO D at_ n ver (i+k) with
   |none=>none
   |some q=>if (q.length:Int)≠1+min (size-out.length) 233 then none else if q.getD 0 0≠0 then none else recGo D at_ n ver i size fu' (k+1) (out++q.drop 1):=rfl
  rw [hunf] at hr
  clear hunf
  obtain ⟨o2,ho2⟩:∃ o,o=payO D at_ n ver (i+k):=⟨_,rfl⟩
  rw [← ho2] at c6 hr
  clear ho2
  cases o2 with
  |none=>
   have hr2:ro=none:=by rw [← hr]
   rw [hr2] at hres
   subst hres
   have c6':Ct Tryz.prog W 182 [.agg #[.pointer (some ⟨p,0,none⟩),.int .i64 at_,.int .i64 n,.int .i64 (ver:Nat)],.int .i64 ((i+k:Nat):Int)] [DiskP p D] (fun _:Unit=>.tuple #[strV [],.bool false]) (fun _=>[DiskP p D]):=c6
   repeat' (first|(refine zAd ?_;refine zAc xE c6' xP rfl (fun _=>?_))|(refine zBh ?_;refine zAb (zAi (r:=((i+k:Nat):Int)) rfl rfl (by omega) (by omega)) ?_)|(refine zAq ?_;refine zAb (zAe rfl rfl qk) ?_)|refine xst ?_|(refine xsa ?_;intro _)|(refine xsb ?_ ?_ <;>intro _<;>try (exfalso;omega))|refine xsc ?_|fail)
   all_goals (exact xdn ())
  |some q2=>
   dsimp only at hr
   have c6':Ct Tryz.prog W 182 [.agg #[.pointer (some ⟨p,0,none⟩),.int .i64 at_,.int .i64 n,.int .i64 (ver:Nat)],.int .i64 ((i+k:Nat):Int)] [DiskP p D] (fun _:Unit=>.tuple #[strV q2,.bool true]) (fun _=>[DiskP p D]):=c6
   obtain ⟨m2,hm2⟩:∃ m,min (size-(out.length:Int)) 233=m:=⟨_,rfl⟩
   rw [hm2] at hr
   by_cases h9:(q2.length:Int)=1+m2
   rotate_left
   ·rw [if_pos h9] at hr
    have hr2:ro=none:=by rw [← hr]
    rw [hr2] at hres
    subst hres
    repeat' (first|(refine zAd ?_;refine zAc xE c6' xP rfl (fun _=>?_))|(refine ek_min ?_;refine zAb (Ev_min_v rfl rfl hm2) ?_)|(refine zBh ?_;refine zAb (zAi (r:=((i+k:Nat):Int)) rfl rfl (by omega) (by omega)) ?_)|(refine zBz ?_;refine zAb (Ev_neqI_t rfl rfl h9) ?_)|(refine zAq ?_;refine zAb (zAe rfl rfl qk) ?_)|refine xst ?_|(refine xsa ?_;intro _)|(refine xsb ?_ ?_ <;>intro _<;>try (exfalso;omega))|refine xsc ?_|fail)
    all_goals (exact xdn ())
   rw [if_neg (by simpa using h9)] at hr
   obtain ⟨d0,hd0⟩:∃ c,q2[(0:Int).toNat]? = some c:=⟨_,List.getElem?_eq_getElem (by show 0<q2.length;omega)⟩
   have hgd:q2.getD 0 0=d0:=by rw [List.getD];rw [show q2[0]? = some d0 from hd0];rfl
   rw [hgd] at hr
   by_cases h10:d0=0
   rotate_left
   ·rw [if_pos h10] at hr
    have hr2:ro=none:=by rw [← hr]
    rw [hr2] at hres
    subst hres
    have h10':((d0.toNat:Nat):Int)≠0:=by
     intro e
     apply h10
     apply UInt8.toNat_inj.1
     show d0.toNat=0
     omega
    repeat' (first|(refine zAd ?_;refine zAc xE c6' xP rfl (fun _=>?_))|(refine ek_index ?_;refine zAb (Ev_indexStr rfl rfl (by omega) hd0) ?_)|(refine ek_min ?_;refine zAb (Ev_min_v rfl rfl hm2) ?_)|(refine zBh ?_;refine zAb (zAi (r:=((i+k:Nat):Int)) rfl rfl (by omega) (by omega)) ?_)|(refine zBz ?_;first|refine zAb (Ev_neqI_t rfl rfl h10') ?_|refine zAb (zCh rfl rfl h9) ?_)|(refine zAq ?_;refine zAb (zAe rfl rfl qk) ?_)|refine xst ?_|(refine xsa ?_;intro _)|(refine xsb ?_ ?_ <;>intro _<;>try (exfalso;omega))|refine xsc ?_|fail)
    all_goals (exact xdn ())
   rw [if_neg (by simpa using h10)] at hr
   have h10':((d0.toNat:Nat):Int)=0:=by rw [h10];rfl
   obtain ⟨q3,hq3⟩:∃ x,q2.drop (1:Int).toNat=x:=⟨_,rfl⟩
   rw [show q2.drop 1=q3 from hq3] at hr
   have hq3l:q3.length=q2.length-1:=by rw [← hq3];exact List.length_drop
   repeat' (first|(refine zAd ?_;refine zAc xE c6' xP rfl (fun _=>?_))|(refine zBq ?_;refine KJ_appendBuf rfl rfl xS (by omega) rfl (fun g5 c5=>?_))|(refine ek_index ?_;refine zAb (Ev_indexStr rfl rfl (by omega) hd0) ?_)|(refine zCg ?_;refine zAb (zCi rfl rfl (by omega) hq3) ?_)|(refine ek_min ?_;refine zAb (Ev_min_v rfl rfl hm2) ?_)|(refine zBh ?_;first|refine zAb (zAi (r:=((k+1:Nat):Int)) rfl rfl (by omega) (by omega)) ?_|refine zAb (zAi (r:=((i+k:Nat):Int)) rfl rfl (by omega) (by omega)) ?_)|(refine zBz ?_;first|refine zAb (zCh rfl rfl h10') ?_|refine zAb (zCh rfl rfl h9) ?_)|(refine zAq ?_;refine zAb (zAe rfl rfl qk) ?_)|refine xst ?_|(refine xsa ?_;intro _)|(refine xsb ?_ ?_ <;>intro _<;>try (exfalso;omega))|refine xsc ?_|fail)
   refine zAv ⟨(fu',k+1,out++q3,g5,c5),hr,by dsimp only;omega,by dsimp only;omega,by dsimp only;rw [List.length_append];split at hcost <;> omega⟩ (by show fu'<fu'+1;omega) ?_ ?_
   ·dsimp only
    rw [List.length_append]
    exact xB
   ·dsimp only
    rw [List.length_append]
    exact (xN)
set_option maxRecDepth 100000 in
theorem replay_ct (hE:ErrsOn L8 W E) (hN:NibAt W) (at_ n:Int) (ver:Nat) (hn2:D.n≤65536) (ho:D.off=false) (h:logOk D at_ n ver):Ct Tryz.prog W 111 [.pointer (some ⟨p,0,none⟩),.int .i64 at_,.int .i64 n,.int .i64 (ver:Nat)] [DiskP p D]
 (fun v:Value=>.tuple #[v,.nilIface]) (fun v=>[DiskP p D,rowP v 9 1 (rpGo D at_ n ver (n.toNat+1) 0 []).length ((rpGo D at_ n ver (n.toNat+1) 0 []).map strV)]):=by
 have c1:=check_ct (W:=W) (p:=p) hn2 ho at_ n (ver:Nat) h
 obtain ⟨h1,h2,h3,h4,h5,h6,h7⟩:=h
 obtain ⟨res,hres⟩:∃ res,res=rpGo D at_ n ver (n.toNat+1) 0 []:=⟨_,rfl⟩
 rw [← hres]
 have cr:=fun i (hi:((i:Nat):Int)≤n)=>record_ct (W:=W) (p:=p) (D:=D) hE hN at_ n ver i (by omega) h5 (by omega) hi
 refine Ct.enter Tryz.func111 rfl Tryz.ntmps111 (by simp) (fun R=>?_)
 repeat' (first|(refine zAd ?_;refine zAc xE c1 xP rfl (fun _=>?_))|(refine zAy ?_;refine zAb (zAz xV xW) ?_)|refine xst ?_|(refine xsa ?_;intro _)|(refine xsb ?_ ?_ <;>intro _<;>try (exfalso;omega))|refine xsc ?_|fail)
 refine KJ.row0 (e:=9) (sz:=1) ?_
 rename_i gl _
 refine zBv (fun k:{s:Nat × Nat × List (List UInt8) × Value//rpGo D at_ n ver s.1 s.2.1 s.2.2.1=res∧(s.2.1:Int)≤n∧n+1≤(s.1:Int)+s.2.1∧s.2.2.1.length≤s.2.1}=>[(10,.pointer (some ⟨gl,0,none⟩)),(12,k.1.2.2.2),(13,.int .i64 (k.1.2.1:Nat))])
  (fun k=>[DiskP p D,zAh gl [.pointer (some ⟨p,0,none⟩),.int .i64 at_,.int .i64 n,.int .i64 (ver:Nat)] 203,rowP k.1.2.2.2 9 1 k.1.2.2.1.length (k.1.2.2.1.map strV)]++R) (fun k=>k.1.1) ⟨(n.toNat+1,0,[],.slice none 0 0),hres.symm,by dsimp only;omega,by dsimp only;omega,Nat.le_refl _⟩ xB (xN) (fun ⟨(f,i,acc,v),hr,hin,hfi,hal⟩=>?_)
 dsimp only at hr hin hfi hal ⊢
 obtain ⟨f',rfl⟩:∃ f',f=f'+1:=⟨f-1,by omega⟩
 have hunf:rpGo D at_ n ver (f'+1) i acc=match recO D at_ n ver i with
  |none=>acc
  |some (s,u)=>rpGo D at_ n ver f' (i+u.toNat) (acc++[s]):=rfl
 rw [hunf] at hr
 clear hunf
 have c2:=cr i hin
 have hrs:=fun s u=>recO_some (D:=D) (at_:=at_) (n:=n) (ver:=ver) (i:=i) (s:=s) (u:=u)
 obtain ⟨o,ho⟩:∃ o,o=recO D at_ n ver i:=⟨_,rfl⟩
 rw [← ho] at c2 hr
 simp only [← ho] at hrs
 clear ho
 cases o with
 |none=>
  have hr2:acc=res:=hr
  subst hr2
  have c2':Ct Tryz.prog W 145 [.agg #[.pointer (some ⟨p,0,none⟩),.int .i64 at_,.int .i64 n,.int .i64 (ver:Nat)],.int .i64 (i:Nat)] [DiskP p D] (fun _:Unit=>.tuple #[strV [],.int .i64 0,.bool false]) (fun _=>[DiskP p D]):=c2
  repeat' (first|(refine zAd ?_;refine zAc xE c2' xP rfl (fun _=>?_))|refine xst ?_|(refine xsa ?_;intro _)|(refine xsb ?_ ?_ <;>intro _<;>try (exfalso;omega))|refine xsc ?_|fail)
  all_goals (exact xdn v)
 |some su=>
  obtain ⟨s,u⟩:=su
  dsimp only at hr
  obtain ⟨hu1,hu2⟩:=hrs s u rfl
  obtain ⟨un,rfl⟩:∃ un:Nat,u=(un:Int):=⟨u.toNat,by omega⟩
  rw [Int.toNat_natCast] at hr
  have c2':Ct Tryz.prog W 145 [.agg #[.pointer (some ⟨p,0,none⟩),.int .i64 at_,.int .i64 n,.int .i64 (ver:Nat)],.int .i64 (i:Nat)] [DiskP p D] (fun _:Unit=>.tuple #[strV s,.int .i64 (un:Nat),.bool true]) (fun _=>[DiskP p D]):=c2
  repeat' (first|(refine zAd ?_;refine zAc xE c2' xP rfl (fun _=>?_))|(refine zBq ?_;refine KJ_append (a2:=0) rfl rfl (by rfl) (by omega) xS (Src.cells (i:=1) xS xC) (by rfl) (by omega) xO (by omega) (by omega) rfl rfl (fun g5 c5=>?_))|(refine zBi ?_;refine zBt rfl xF (by rfl) (by omega) rfl (fun g3=>?_))|(refine zBh ?_;refine zAb (zAi (r:=((i+un:Nat):Int)) rfl rfl (by omega) (by omega)) ?_)|refine xst ?_|(refine xsa ?_;intro _)|(refine xsb ?_ ?_ <;>intro _<;>try (exfalso;omega))|refine xsc ?_|fail)
  refine zAv ⟨(f',i+un,acc++[s],.slice (some ⟨g5,0,none⟩) (acc.length+1) c5),hr,by dsimp only;omega,by dsimp only;omega,by dsimp only;rw [List.length_append];show acc.length+1≤_;omega⟩ (by show f'<f'+1;omega) xB ?_
  have em:acc.map strV++[strV s]=(acc++[s]).map strV:=by simp
  dsimp only
  rw [← em,List.length_append]
  exact (xN)
end
end Go.Proofs.YtgipenahkmbelaaGreatDoor
namespace Go.Proofs.YtgipenahkmbelaaGreatDoor
open Go Go.RowKit
theorem zs_tail0:getB ((zs 256).drop 248) 8=0:=by kernel_rfl
end Go.Proofs.YtgipenahkmbelaaGreatDoor
namespace Go.Proofs.YtgipenahkmbelaaGreatDoor
open Go Go.RowKit
section
variable {D:Dsk} {at_ n:Int} {ver:Nat}
theorem recO_none {i:Nat} (h:payO D at_ n ver i=none):recO D at_ n ver i=none:=by unfold recO;rw [h]
end
end Go.Proofs.YtgipenahkmbelaaGreatDoor
namespace Go.Proofs.YtgipenahkmbelaaGreatDoor
open Go Go.RowKit
def wsJ (at_ v:Nat):Nat→List (List UInt8)→List (Nat × List UInt8)
 |_,[]=>[]
 |k,p::r=>(at_+k,zBs (stampN v k:Nat) p)::wsJ at_ v (k+1) r
theorem wsJ_length (at_ v:Nat):∀ (G:List (List UInt8)) (k:Nat),(wsJ at_ v k G).length=G.length:=by
 intro G
 induction G with
 |nil=>intro k;rfl
 |cons p G ih=>intro k;simp [wsJ,ih]
theorem wsJ_in (at_ v:Nat):∀ (G:List (List UInt8)) (k:Nat),(∀ p ∈ G,p.length≤234)→∀ x ∈ wsJ at_ v k G,at_+k≤x.1∧x.1<at_+k+G.length∧x.2.length=256:=by
 intro G
 induction G with
 |nil=>intro k _ x hx;cases hx
 |cons p G ih=>
  intro k hp x hx
  rcases List.mem_cons.1 hx with rfl|hx
  ·exact ⟨Nat.le_refl _,by dsimp only;rw [List.length_cons];omega,sealB_length _ _ (hp p (by simp))⟩
  ·obtain ⟨h1,h2,h3⟩:=ih (k+1) (fun q hq=>hp q (by simp [hq])) x hx
   rw [List.length_cons]
   exact ⟨by omega,by omega,h3⟩
theorem wr_off {D:Dsk} (h:D.off=false) (i:Nat) (hi:i<D.n) (s:List UInt8) (hs:s.length=256):(D.writeE i s=12→(D.writeD i s).off=true)∧(D.writeD i s).life=D.life:=by
 have hhas:D.has (i:Int)=true:=by unfold Dsk.has;exact decide_eq_true (by omega)
 obtain ⟨n,img,und,off,armed,wr,fl,lf⟩:=D
 obtain rfl:off=false:=h
 by_cases h0:armed=0
 ·subst h0
  simp [Dsk.writeE,Dsk.writeD,Dsk.dead,Dsk.gone,hhas,hs]
 ·by_cases hp:0<armed
  ·simp [Dsk.writeE,Dsk.writeD,Dsk.dead,Dsk.gone,hhas,hs,h0,hp]
  ·simp [Dsk.writeE,Dsk.writeD,Dsk.dead,Dsk.gone,hhas,hs,h0,hp]
theorem ap_ways (at_ v used:Nat):∀ (ps:List (List UInt8)) (i:Nat) (D:Dsk),D.off=false→D.ok→(∀ p ∈ ps,p.length≤234)→at_+used+i+ps.length≤D.n→
 (((apGo at_ v used ps i D).1=true∧(apGo at_ v used ps i D).2.off=false∧(apGo at_ v used ps i D).2.und=D.und++wsJ at_ v (used+i) ps)∨
   ((apGo at_ v used ps i D).1=false∧(apGo at_ v used ps i D).2.off=true∧∃ m,(apGo at_ v used ps i D).2.und=D.und++(wsJ at_ v (used+i) ps).take m))∧
 (apGo at_ v used ps i D).2.img=D.img∧(apGo at_ v used ps i D).2.n=D.n∧(apGo at_ v used ps i D).2.ok∧(apGo at_ v used ps i D).2.life=D.life:=by
 intro ps
 induction ps with
 |nil=>intro i D h1 h2 _ _;exact ⟨.inl ⟨rfl,h1,by show D.und=D.und++[];rw [List.append_nil]⟩,rfl,rfl,h2,rfl⟩
 |cons q ps ih=>
  intro i D h1 h2 hp hn
  rw [List.length_cons] at hn
  have hS:=sealB_length (stampN v (used+i):Nat) q (hp q (by simp))
  obtain ⟨w1,w2,w3,w4,-⟩:=write_ways h1 (at_+used+i) (by omega) _ hS
  obtain ⟨w5,w6⟩:=wr_off h1 (at_+used+i) (by omega) _ hS
  have hok:=Dsk.writeD_ok h2 ((at_+used+i:Nat):Int) (zBs (stampN v (used+i):Nat) q)
  have hadr:(at_:Int)+(used:Nat)+(i:Nat)=((at_+used+i:Nat):Int):=by omega
  have hu:apGo at_ v used (q::ps) i D=if D.writeE ((at_+used+i:Nat):Int) (zBs (stampN v (used+i):Nat) q)≠0 then (false,D.writeD ((at_+used+i:Nat):Int) (zBs (stampN v (used+i):Nat) q))
   else apGo at_ v used ps (i+1) (D.writeD ((at_+used+i:Nat):Int) (zBs (stampN v (used+i):Nat) q)):=by
   rw [← hadr];rfl
  rw [hu]
  clear hu
  obtain ⟨D1,hD1⟩:∃ D1,D1=D.writeD ((at_+used+i:Nat):Int) (zBs (stampN v (used+i):Nat) q):=⟨_,rfl⟩
  obtain ⟨e,he⟩:∃ e,e=D.writeE ((at_+used+i:Nat):Int) (zBs (stampN v (used+i):Nat) q):=⟨_,rfl⟩
  rw [← hD1] at w1 w2 w3 w4 w5 w6 hok ⊢
  rw [← he] at w1 w5 ⊢
  rcases w1 with ⟨a,b⟩|a
  ·rw [if_neg (by rw [a];simp)]
   obtain ⟨r1,r2,r3,r4,r5⟩:=ih (i+1) D1 b hok (fun x hx=>hp x (by simp [hx])) (by rw [w4];omega)
   have hcat:∀ X:List (Nat × List UInt8),D1.und++X=D.und++((at_+(used+i),zBs (stampN v (used+i):Nat) q)::X):=fun X=>by
    rw [w2,List.append_assoc,← Nat.add_assoc at_ used i];rfl
   refine ⟨?_,by rw [r2,w3],by rw [r3,w4],r4,by rw [r5,w6]⟩
   rcases r1 with ⟨c1,c2,c3⟩|⟨c1,c2,m,c3⟩
   ·exact .inl ⟨c1,c2,by rw [c3,hcat];rfl⟩
   ·exact .inr ⟨c1,c2,m+1,by rw [c3,hcat];rfl⟩
  ·rw [if_pos (by rw [a];simp)]
   refine ⟨.inr ⟨rfl,w5 a,1,?_⟩,w3,w4,hok,w6⟩
   rw [w2,Nat.add_assoc at_ used i]
   rfl
theorem openS_tail {s:Nat} {raw:List UInt8} (hs:s<2 ^ 64) (h:getB (raw.drop 248) 8<(s:Int)):openS s raw=none:=by
 unfold openS
 split
 ·rfl
 split
 ·rfl
 split
 ·rfl
 split
 ·rename_i h234 heq
  exfalso
  have hpl:(openP raw).length≤234:=by
   unfold openP
   rw [List.length_drop,List.length_take]
   omega
  have h1:=seal_getT s (openP raw) hpl hs
  rw [heq] at h1
  omega
 ·rfl
theorem stamp_lt {v j:Nat} (hv:v≤1099511627776) (hj:j<65536):stampN v j<2 ^ 64:=by unfold stampN;omega
end Go.Proofs.YtgipenahkmbelaaGreatDoor
