/-
  StX1, StQ1, StQ2, StQ3, StY1, StY4, StY5, StY2, StY3, StY6, StY7, StY8, StZ1, StZ2, StZL, StZ3.
-/
import Derived.Test.YtnkhohfbijkohaaGreatDoorTEP
import Derived.Test.YtnkhohfbijkohaaGreatDoorTEN
import Derived.Test.YtnkhohfbijkohaaGreatDoorTFU
import Derived.Test.YtnkhohfbijkohaaGreatDoorTGJ
import Derived.Test.YtnkhohfbijkohaaGreatDoorTEZ
import Derived.Test.YtnkhohfbijkohaaGreatDoorTFO
set_option maxHeartbeats 64000000
namespace Go.Proofs.YtnkhohfbijkohaaGreatDoor
open Go Go.RowKit
abbrev plTGM0:Pl:=(.op 0 (.op 1 (.op 2 (.op 3 (.op 4 (.op 5 (.op 6 (.op 7 (.op 8 (.ef 9 [4,3,2,1,0] (.op 10 (.op 11 .nil))))))))))))
abbrev plTGM1:Pl:=(.op 0 (.op 1 (.op 2 (.op 3 (.op 4 (.op 5 (.op 6 (.op 7 (.op 8 (.op 9 (.op 10 (.op 11 (.op 12 (.op 13 (.op 14 (.op 15 (.op 16 (.op 17 (.op 18 (.op 19 (.ef 20 [] (.op 21 (.op 22 (.op 23 (.op 24 (.op 25 (.op 26 (.op 27 (.op 28 (.ef 29 [27,26,25,24,23] (.ef 30 [] (.op 31 (.op 32 .nil)))))))))))))))))))))))))))))))))
abbrev plTGM2:Pl:=(.op 0 (.op 1 (.op 2 (.op 3 (.op 4 (.op 5 (.op 6 (.op 7 (.op 8 (.op 9 (.op 10 (.op 11 (.op 12 (.op 13 (.op 14 (.ef 15 [] (.op 16 (.op 17 (.op 18 (.op 19 (.op 20 .nil)))))))))))))))))))))
abbrev plTGM3:Pl:=(.op 0 (.ef 1 [0] (.ef 2 [] .nil)))
abbrev plTGM4:Pl:=(.op 0 (.op 1 (.ef 2 [0] (.ef 3 [] (.ef 4 [] .nil)))))
abbrev plTGM5:Pl:=(.op 0 (.op 1 (.op 2 (.op 3 (.op 4 (.op 5 (.op 6 (.op 7 (.op 8 (.op 9 (.op 10 (.op 11 (.op 12 (.op 13 (.op 14 (.op 15 (.op 16 .nil)))))))))))))))))
abbrev plTGM6:Pl:=(.op 0 (.op 1 (.op 2 (.op 3 (.op 4 (.op 5 (.op 6 (.op 7 (.op 8 .nil)))))))))
section
variable {W:World} {F:Nat→Addr} {N:List Nd} {a:Option Addr} {r:Rows} {q s d n:Nat} {b:Int} {D:Dsk}
theorem sfoldA_ct (hE:ErrsOn L8 W F) (hN:NibAt W) (h1:64≤n) (h2:n≤65536) (v:Nat) (hv:v+1≤1099511627776) (lg:Option Addr) (life:Int) (dead:Bool) (hT:TbOk N a r) (hn:D.n=n) (hr:(zAj r).length≤234*layA n) (hul:D.und.length+65536<1073741823)
 (hA:(areaW D (zBj n (v+1)) (layA n) ((v+1:Nat):Int) (zAj r)).1=12) :
 Ct Tryz.prog W 50 [.pointer (some ⟨s,0,none⟩)] [stP s d q n (v:Nat) lg life dead,DiskP d D,tbP q a b,arP N] (fun _:Unit=>errV F 12)
  (fun _=>[stP s d q n (v:Nat) lg life true,DiskP d (fldA D n (v+1) r),tbP q a b,arP N]):=by
 have e12:W.cell? ⟨2,0,none⟩=some (errV F 12):=hE.at_ 12 (by decide)
 have hne:=errNe (F:=F) (e:=12) (by omega)
 obtain ⟨f1,f2,f3,f4⟩:=zBn h1 (v+1)
 have hA2:=layA_le h2
 have cs:=snapshot_ct (W:=W) (p:=q) (b:=b) hT (by omega)
 have cA:Ct Tryz.prog W 123 [.pointer (some ⟨d,0,none⟩),.int .i64 (zBj n (v+1):Nat),.int .i64 (layA n:Nat),.int .u64 ((v+1:Nat):Int),strV (zAj r)] [DiskP d D] (fun _:Unit=>errV F 12) (fun _=>[DiskP d (fldA D n (v+1) r)]):=by
  have:=awrite_ct (W:=W) (p:=d) (D:=D) hE hN (by omega) hul (zBj n (v+1):Nat) (layA n:Nat) ((v+1:Nat):Int) (zAj r)
  rw [hA] at this
  exact this
 obtain ⟨D1,hD1⟩:∃ D1,D1=fldA D n (v+1) r:=⟨_,rfl⟩
 rw [← hD1] at cA ⊢
 clear hA hD1
 have csz:Ct Tryz.prog W 43 [.pointer (some ⟨d,0,none⟩)] [DiskP d D] (fun _:Unit=>.int .i64 (n:Nat)) (fun _=>[DiskP d D]):=by
  have:=size_ct (W:=W) (p:=d) (D:=D)
  rw [hn] at this
  exact this
 obtain ⟨L,hL⟩:∃ L,L=zAj r:=⟨_,rfl⟩
 rw [← hL] at hr cs cA
 clear hL
 have cn:=wnew_ct (W:=W)
 have cu1:∀ g,Ct Tryz.prog W 122 [.pointer (some ⟨g,0,none⟩),.int .u64 (n:Nat)] [WrP g []] (fun _:Unit=>.tuple #[]) (fun _=>[WrP g (vu n)]):=fun g=>by
  have:=wuint_ct (W:=W) (p:=g) (l:=[]) n (by omega) (by simp)
  rw [List.nil_append] at this
  exact this
 have hvn:=vu_len n
 have hvp:=vu_pos n
 have cu2:∀ g,Ct Tryz.prog W 122 [.pointer (some ⟨g,0,none⟩),.int .u64 (L.length:Nat)] [WrP g (vu n)] (fun _:Unit=>.tuple #[]) (fun _=>[WrP g (hdrB n L.length)]):=fun g=>wuint_ct (W:=W) (p:=g) (l:=vu n) L.length (by omega) (by omega)
 have co:∀ g,Ct Tryz.prog W 125 [.pointer (some ⟨g,0,none⟩)] [WrP g (hdrB n L.length)] (fun _:Unit=>strV (hdrB n L.length)) (fun _=>[WrP g (hdrB n L.length)]):=fun g=>wout_ct (W:=W) (by unfold hdrB;rw [List.length_append];omega)
 have w1:IntKind.u64.wrap ((n:Nat):Int)=((n:Nat):Int):=zBw _ (by omega)
 have w2:IntKind.u64.wrap ((L.length:Nat):Int)=((L.length:Nat):Int):=zBw _ (by omega)
 have w3:IntKind.u64.wrap ((v+1:Nat):Int)=((v+1:Nat):Int):=zBw _ (by omega)
 have q0:decide ((1099511627776:Int)≤(v:Nat))=false:=decide_eq_false (by omega)
 have fin:∀ m:Nat,((v+1:Nat):Int) % 2=(m:Nat)→(stC d q n (v:Nat) lg life dead)[0+1+0+((m:Nat):Int).toNat*1]? = some (.int .i64 (zBj n (v+1):Nat)):=fun m hm=>by
  unfold zBj
  rcases (show m=0∨m=1 by omega) with rfl|rfl
  ·rw [if_pos (by omega)];rfl
  ·rw [if_neg (by omega)];rfl
 obtain ⟨m,hm⟩:∃ m:Nat,((v+1:Nat):Int) % 2=(m:Nat):=⟨(v+1) % 2,by omega⟩
 have hx:=fin m hm
 have hm2:m<2:=by omega
 clear fin
 refine Ct.enter Tryz.func50 rfl Tryz.ntmps50 (by simp) (fun R=>?_)
 repeat' (first|(refine zAd ?_;first|(refine zAa xE cA xP rfl (fun _=>?_))|(refine zAa xE (co _) xP rfl (fun _=>?_))|(refine zAa xE (cu2 _) xP rfl (fun _=>?_))|(refine zAa xE (cu1 _) xP rfl (fun _=>?_))|(refine zAa xE csz xP rfl (fun _=>?_))|(refine zAa xE cn xP rfl (fun pw=>?_))|(refine zAa xE cs xP rfl (fun _=>?_)))|(refine zAh ?_;first|refine zAc (Ev_load rfl xS hx) ?_|refine zAc (zAp rfl e12) ?_)|(refine zBp ?_;first|refine zAc (zAv rfl w3) ?_|refine zAc (zAv rfl w2) ?_|refine zAc (zAv rfl w1) ?_)|(refine zBk ?_;refine zAc (zAi (r:=((v+1:Nat):Int)) rfl rfl (by omega) (by omega)) ?_)|(refine ek_rem ?_;refine zAc (Ev_rem_w rfl rfl (by omega) hm) ?_)|(refine zBh ?_;refine zAc (Ev_neqNil rfl hne) ?_)|(refine ek_geq ?_;refine zAc (zBr rfl rfl q0) ?_)|refine xst ?_|(refine xsa ?_;intro _)|(refine xsb ?_ ?_ <;>intro _<;>try (exfalso;omega))|refine xsc ?_|(refine zAb (id:=3) plTGM0 (by kernel_rfl) (by kernel_rfl) ?_)|(refine zAb (id:=7) plTGM1 (by kernel_rfl) (by kernel_rfl) ?_)|(refine zAb (id:=10) plTGM2 (by kernel_rfl) (by kernel_rfl) ?_)|refine zAn ?_ ?_|refine zAm rfl rfl rfl rfl rfl ?_ ?_|refine zAf ?_ ?_|exact Rech.nil|fail)
 all_goals (exact xdn ())
theorem sfoldS_ct (hE:ErrsOn L8 W F) (hN:NibAt W) (h1:64≤n) (h2:n≤65536) (v:Nat) (hv:v+1≤1099511627776) (lg:Option Addr) (life:Int) (dead:Bool) (hT:TbOk N a r) (hn:D.n=n) (hr:(zAj r).length≤234*layA n) (hul:D.und.length+65536<1073741823)
 (hA:(areaW D (zBj n (v+1)) (layA n) ((v+1:Nat):Int) (zAj r)).1=0) (hu2:(fldA D n (v+1) r).und=[]) (hn2:(fldA D n (v+1) r).n=n) (hS:slotWE (fldA D n (v+1) r) 0 ((v+1:Nat):Int) (hdrB n (zAj r).length)=12) :
 Ct Tryz.prog W 50 [.pointer (some ⟨s,0,none⟩)] [stP s d q n (v:Nat) lg life dead,DiskP d D,tbP q a b,arP N] (fun _:Unit=>errV F 12)
  (fun _=>[stP s d q n (v:Nat) lg life true,DiskP d (fldD D n (v+1) r),tbP q a b,arP N]):=by
 have e12:W.cell? ⟨2,0,none⟩=some (errV F 12):=hE.at_ 12 (by decide)
 have hne:=errNe (F:=F) (e:=12) (by omega)
 obtain ⟨f1,f2,f3,f4⟩:=zBn h1 (v+1)
 have hA2:=layA_le h2
 have cs:=snapshot_ct (W:=W) (p:=q) (b:=b) hT (by omega)
 have cA:Ct Tryz.prog W 123 [.pointer (some ⟨d,0,none⟩),.int .i64 (zBj n (v+1):Nat),.int .i64 (layA n:Nat),.int .u64 ((v+1:Nat):Int),strV (zAj r)] [DiskP d D] (fun _:Unit=>.nilIface) (fun _=>[DiskP d (fldA D n (v+1) r)]):=by
  have:=awrite_ct (W:=W) (p:=d) (D:=D) hE hN (by omega) hul (zBj n (v+1):Nat) (layA n:Nat) ((v+1:Nat):Int) (zAj r)
  rw [hA] at this
  exact this
 have cW:Ct Tryz.prog W 124 [.pointer (some ⟨d,0,none⟩),.int .i64 0,.int .i64 ((v+1:Nat):Int),strV (hdrB n (zAj r).length)] [DiskP d (fldA D n (v+1) r)] (fun _:Unit=>errV F 12) (fun _=>[DiskP d (fldD D n (v+1) r)]):=by
  have:=swrite_ct (W:=W) (p:=d) (D:=fldA D n (v+1) r) hE hN (by omega) (by rw [hu2];simp) 0 ((v+1:Nat):Int) (hdrB n (zAj r).length)
  rw [hS] at this
  exact this
 obtain ⟨D1,hD1⟩:∃ D1,D1=fldA D n (v+1) r:=⟨_,rfl⟩
 obtain ⟨D2,hD2⟩:∃ D2,D2=fldD D n (v+1) r:=⟨_,rfl⟩
 rw [← hD1,← hD2] at cW
 rw [← hD1] at cA
 rw [← hD2]
 clear hA hS hD1 hD2 hu2 hn2
 have csz:Ct Tryz.prog W 43 [.pointer (some ⟨d,0,none⟩)] [DiskP d D] (fun _:Unit=>.int .i64 (n:Nat)) (fun _=>[DiskP d D]):=by
  have:=size_ct (W:=W) (p:=d) (D:=D)
  rw [hn] at this
  exact this
 obtain ⟨L,hL⟩:∃ L,L=zAj r:=⟨_,rfl⟩
 rw [← hL] at hr cs cA cW
 clear hL
 have cn:=wnew_ct (W:=W)
 have cu1:∀ g,Ct Tryz.prog W 122 [.pointer (some ⟨g,0,none⟩),.int .u64 (n:Nat)] [WrP g []] (fun _:Unit=>.tuple #[]) (fun _=>[WrP g (vu n)]):=fun g=>by
  have:=wuint_ct (W:=W) (p:=g) (l:=[]) n (by omega) (by simp)
  rw [List.nil_append] at this
  exact this
 have hvn:=vu_len n
 have hvp:=vu_pos n
 have cu2:∀ g,Ct Tryz.prog W 122 [.pointer (some ⟨g,0,none⟩),.int .u64 (L.length:Nat)] [WrP g (vu n)] (fun _:Unit=>.tuple #[]) (fun _=>[WrP g (hdrB n L.length)]):=fun g=>wuint_ct (W:=W) (p:=g) (l:=vu n) L.length (by omega) (by omega)
 have co:∀ g,Ct Tryz.prog W 125 [.pointer (some ⟨g,0,none⟩)] [WrP g (hdrB n L.length)] (fun _:Unit=>strV (hdrB n L.length)) (fun _=>[WrP g (hdrB n L.length)]):=fun g=>wout_ct (W:=W) (by unfold hdrB;rw [List.length_append];omega)
 have w1:IntKind.u64.wrap ((n:Nat):Int)=((n:Nat):Int):=zBw _ (by omega)
 have w2:IntKind.u64.wrap ((L.length:Nat):Int)=((L.length:Nat):Int):=zBw _ (by omega)
 have w3:IntKind.u64.wrap ((v+1:Nat):Int)=((v+1:Nat):Int):=zBw _ (by omega)
 have q0:decide ((1099511627776:Int)≤(v:Nat))=false:=decide_eq_false (by omega)
 have fin:∀ m:Nat,((v+1:Nat):Int) % 2=(m:Nat)→(stC d q n (v:Nat) lg life dead)[0+1+0+((m:Nat):Int).toNat*1]? = some (.int .i64 (zBj n (v+1):Nat)):=fun m hm=>by
  unfold zBj
  rcases (show m=0∨m=1 by omega) with rfl|rfl
  ·rw [if_pos (by omega)];rfl
  ·rw [if_neg (by omega)];rfl
 obtain ⟨m,hm⟩:∃ m:Nat,((v+1:Nat):Int) % 2=(m:Nat):=⟨(v+1) % 2,by omega⟩
 have hx:=fin m hm
 have hm2:m<2:=by omega
 clear fin
 refine Ct.enter Tryz.func50 rfl Tryz.ntmps50 (by simp) (fun R=>?_)
 repeat' (first|(refine zAd ?_;first|(refine zAa xE cW xP rfl (fun _=>?_))|(refine zAa xE cA xP rfl (fun _=>?_))|(refine zAa xE (co _) xP rfl (fun _=>?_))|(refine zAa xE (cu2 _) xP rfl (fun _=>?_))|(refine zAa xE (cu1 _) xP rfl (fun _=>?_))|(refine zAa xE csz xP rfl (fun _=>?_))|(refine zAa xE cn xP rfl (fun pw=>?_))|(refine zAa xE cs xP rfl (fun _=>?_)))|(refine zAh ?_;first|refine zAc (Ev_load rfl xS hx) ?_|refine zAc (zAp rfl e12) ?_)|(refine zBp ?_;first|refine zAc (zAv rfl w3) ?_|refine zAc (zAv rfl w2) ?_|refine zAc (zAv rfl w1) ?_)|(refine zBk ?_;refine zAc (zAi (r:=((v+1:Nat):Int)) rfl rfl (by omega) (by omega)) ?_)|(refine ek_rem ?_;refine zAc (Ev_rem_w rfl rfl (by omega) hm) ?_)|(refine zBh ?_;refine zAc (Ev_neqNil rfl hne) ?_)|(refine ek_geq ?_;refine zAc (zBr rfl rfl q0) ?_)|refine xst ?_|(refine xsa ?_;intro _)|(refine xsb ?_ ?_ <;>intro _<;>try (exfalso;omega))|refine xsc ?_|(refine zAb (id:=3) plTGM0 (by kernel_rfl) (by kernel_rfl) ?_)|(refine zAb (id:=7) plTGM1 (by kernel_rfl) (by kernel_rfl) ?_)|(refine zAb (id:=10) plTGM2 (by kernel_rfl) (by kernel_rfl) ?_)|refine zAn ?_ ?_|refine zAm rfl rfl rfl rfl rfl ?_ ?_|refine zAf ?_ ?_|exact Rech.nil|fail)
 all_goals (exact xdn ())
end
end Go.Proofs.YtnkhohfbijkohaaGreatDoor
namespace Go.Proofs.YtnkhohfbijkohaaGreatDoor
open Go Go.RowKit
theorem Old.zero:Old 0 (zs 256):=⟨zs_old1.len,zs_old1.tail⟩
theorem aw_off (stamp:Int) (at_:Nat):∀ (f:Nat) (D:Dsk) (i:Nat) (v:List UInt8),D.off=false→D.ok→v.length≤234*f→at_+i+nsec v.length≤D.n→
 ((awGo at_ stamp f D i v).1=12→(awGo at_ stamp f D i v).2.off=true)∧(awGo at_ stamp f D i v).2.life=D.life:=by
 have hnil:∀ (f:Nat) (D:Dsk) (i:Nat),D.off=false→((awGo at_ stamp f D i []).1=12→(awGo at_ stamp f D i []).2.off=true)∧(awGo at_ stamp f D i []).2.life=D.life:=by
  intro f D i ho
  rw [awGo_nil]
  exact fl_off ho
 intro f
 induction f with
 |zero=>
  intro D i v ho hk hv hn
  have:v=[]:=List.length_eq_zero_iff.1 (by omega)
  subst this
  exact hnil 0 D i ho
 |succ f ih=>
  intro D i v ho hk hv hn
  by_cases h0:v=[]
  ·subst h0;exact hnil (f+1) D i ho
  have hp:=List.length_pos_iff.2 h0
  have hn':at_+i<D.n∧at_+(i+1)+nsec (v.drop 234).length≤D.n:=by
   rw [List.length_drop]
   unfold nsec at hn ⊢
   omega
  have hS:=zBm stamp (v.take 234) (by rw [List.length_take];omega)
  obtain ⟨w1,w2,w3,w4,w5⟩:=write_ways ho (at_+i) hn'.1 _ hS
  obtain ⟨x1,x2⟩:=wr_off ho (at_+i) hn'.1 _ hS
  have hok:=Dsk.writeD_ok hk ((at_+i:Nat):Int) (zAw stamp (v.take 234))
  have hu:awGo at_ stamp (f+1) D i v=if D.writeE ((at_+i:Nat):Int) (zAw stamp (v.take 234))≠0 then (D.writeE ((at_+i:Nat):Int) (zAw stamp (v.take 234)),D.writeD ((at_+i:Nat):Int) (zAw stamp (v.take 234)))
   else awGo at_ stamp f (D.writeD ((at_+i:Nat):Int) (zAw stamp (v.take 234))) ((i+1:Nat):Int) (v.drop 234):=by
   show (if v=[] then _ else _)=_
   rw [if_neg h0]
   rfl
  rw [hu]
  clear hu
  rcases w1 with ⟨a,b⟩|a
  ·rw [if_neg (by rw [a];simp)]
   obtain ⟨r1,r2⟩:=ih (D.writeD ((at_+i:Nat):Int) (zAw stamp (v.take 234))) (i+1) (v.drop 234) b hok (by rw [List.length_drop];omega) (by rw [w4];exact hn'.2)
   exact ⟨r1,by rw [r2,x2]⟩
  ·rw [if_pos (by rw [a];simp)]
   exact ⟨fun _=>x1 a,x2⟩
theorem crash_sec (D:Dsk) (kept:List Bool) (torn bytes:Int) (i:Nat):(D.crash kept torn bytes).sec i=cut (zBx D.img (cutP (done kept torn bytes) D.und 0)) (i*256) 256:=by
 unfold Dsk.sec
 show cut (layDone _ _ _ _ _) _ _=_
 rw [layDone_eq]
theorem still_crash {D:Dsk} (h:Still D) (kept:List Bool) (torn bytes:Int) (i:Nat):(D.crash kept torn bytes).sec i=D.sec i:=by
 unfold Dsk.sec
 rw [crash_clean D h.und]
theorem area_ways {D:Dsk} (h:Still D) (a n s:Nat) (v:List UInt8) (ha:a+n≤D.n) (hs:1≤s) (hv:v.length≤234*n) (hn:n≤65536) :
 (((areaW D a n s v).1=0∧Still (areaW D a n s v).2∧
  (∀ k,234*k<v.length→(areaW D a n s v).2.sec (a+k)=zAw s ((v.drop (234*k)).take 234))∧∀ j,j<D.n→(j<a∨a+n≤j)→(areaW D a n s v).2.sec j=D.sec j)∨
  ((areaW D a n s v).1=12∧(areaW D a n s v).2.off=true∧∀ kept torn bytes j,j<D.n→(j<a∨a+n≤j)→((areaW D a n s v).2.crash kept torn bytes).sec j=D.sec j))∧
 (areaW D a n s v).2.n=D.n∧(areaW D a n s v).2.ok∧(areaW D a n s v).2.life=D.life∧(areaW D a n s v).2.und.length≤n:=by
 have hns:nsec v.length≤n:=by unfold nsec;omega
 have hlen:=h.ok.len
 have e1:areaW D a n s v=awGo ((a:Nat):Int) (s:Nat) v.length D ((0:Nat):Int) v:=by
  unfold areaW
  have hm:D.mayB a n=true:=by unfold Dsk.mayB;exact decide_eq_true (by omega)
  have hroom:roomI n=234*n:=by unfold roomI;omega
  rw [if_neg (by rw [hm];simp),if_neg (by omega),if_neg (by rw [hroom];omega),if_neg (by rw [h.on];simp)]
  rfl
 obtain ⟨w1,w2,w3,-⟩:=aw_ways (s:Nat) a v.length D 0 v h.on h.ok (by omega) (by omega)
 obtain ⟨x1,x2⟩:=aw_off (s:Nat) a v.length D 0 v h.on h.ok (by omega) (by omega)
 rw [← e1] at w1 w2 w3 x1 x2
 clear e1
 obtain ⟨r,hr⟩:∃ r,r=areaW D a n s v:=⟨_,rfl⟩
 rw [← hr] at w1 w2 w3 x1 x2 ⊢
 clear hr
 simp only [h.und,List.nil_append,Nat.add_zero] at w1
 have hin:=pcs_in (s:Nat) v.length a v
 have hpl:=pcs_length (s:Nat) v.length a v
 have hpk:∀ k,((v.drop (234*k)).take 234).length≤234:=fun k=>by rw [List.length_take];omega
 have hsl:∀ j,j<D.n→(D.sec j).length=256:=fun j hj=>cut_length _ _ _ (by omega)
 refine ⟨?_,w2,w3,x2,?_⟩
 ·rcases w1 with ⟨q1,q2,q3,q4⟩|⟨q1,q2,m,q3⟩
  ·left
   have himg:r.2.img=zBx D.img (cutP (fun _=>256) ((pcs (s:Nat) v.length a v).take (pcs (s:Nat) v.length a v).length) 0):=by
    rw [q4,List.take_of_length_le (Nat.le_refl _),cutP_full _ (fun _=>rfl) _ _ (fun x hx=>(hin x hx).2.2)]
   refine ⟨q1,⟨q2,q3,w3⟩,fun k hk=>?_,fun j hj hout=>?_⟩
   ·obtain ⟨d,a1,a2,a3⟩:=torn_pcs (s:Nat) D.n (fun _=>256) (fun _=>Nat.le_refl _) v.length a (pcs (s:Nat) v.length a v).length 0 v D.img hlen (by omega) k hk
    have hd:=a3 (fun _=>rfl) (by omega) (Nat.le_refl _)
    have hjk:a+k<D.n:=by omega
    show cut r.2.img _ _=_
    rw [himg,a2,hd]
    exact torn_full _ _ (zBm _ _ (hpk k)) (hsl _ hjk)
   ·show cut r.2.img _ _=_
    rw [q4]
    refine layAll_off D.n j _ _ hlen fun x hx=>?_
    obtain ⟨c1,c2,c3⟩:=hin x hx
    exact ⟨by omega,by omega,by omega⟩
  ·right
   refine ⟨q1,x1 q1,fun kept torn bytes j hj hout=>?_⟩
   rw [crash_sec,q2,q3]
   refine layAll_off D.n j _ _ hlen fun x hx=>?_
   obtain ⟨y,hy,b1,b2⟩:=cutP_in _ _ _ _ hx
   obtain ⟨c1,c2,c3⟩:=hin y (List.mem_of_mem_take hy)
   exact ⟨by omega,by omega,by omega⟩
 ·rcases w1 with ⟨_,_,q,_⟩|⟨_,_,m,q⟩
  ·rw [q];simp
  ·rw [q,List.length_take];omega
theorem slot_ok {D:Dsk} (h:D.ok) (a v:Int) (s:List UInt8):(zCh D a v s).ok:=by
 unfold zCh slotW1
 split
 ·exact h
 split
 ·exact h
 split
 ·exact Dsk.writeD_ok h _ _
 ·exact Dsk.flushD_ok (Dsk.writeD_ok h _ _)
theorem slot_ways {D:Dsk} (h:Still D) (a v:Nat) (s:List UInt8) (ha:a+2≤D.n) (hv:1≤v) (hv2:v≤1099511627776) (hs:s.length≤234) :
 ((slotWE D a v s=0∧Still (zCh D a v s)∧(zCh D a v s).sec (a+v % 2)=zAw v s∧∀ j,j<D.n→j≠a+v % 2→(zCh D a v s).sec j=D.sec j)∨
   (slotWE D a v s=12∧(zCh D a v s).off=true∧∀ kept torn bytes,(∃ d,d≤256∧((zCh D a v s).crash kept torn bytes).sec (a+v % 2)=tornB (zAw v s) (D.sec (a+v % 2)) d)∧∀ j,j<D.n→j≠a+v % 2→((zCh D a v s).crash kept torn bytes).sec j=D.sec j))∧
 (zCh D a v s).n=D.n∧(zCh D a v s).ok∧(zCh D a v s).life=D.life∧(zCh D a v s).und.length≤1:=by
 obtain ⟨t1,t2,t3⟩:=slot_three h a v s ha hv hv2 hs
 have hok:=slot_ok h.ok a v s
 have hlen:=h.ok.len
 have hS:=zBm (v:Int) s hs
 have hb:(a+v % 2)*256+256≤D.img.length:=by omega
 have cutoff:∀ D':Dsk,D'.img=D.img→D'.und=[(a+v % 2,zAw v s)]→∀ kept torn bytes,(∃ d,d≤256∧(D'.crash kept torn bytes).sec (a+v % 2)=tornB (zAw v s) (D.sec (a+v % 2)) d)∧∀ j,j<D.n→j≠a+v % 2→(D'.crash kept torn bytes).sec j=D.sec j:=by
  intro D' e1 e2 kept torn bytes
  have hd:=doneK_le kept torn bytes 0
  refine ⟨⟨done kept torn bytes 0,hd,?_⟩,fun j hj hne=>?_⟩
  ·rw [crash_sec,e1,e2]
   show cut (lay D.img ((a+v % 2)*256) ((zAw v s).take (done kept torn bytes 0))) _ _=_
   exact cut_lay_torn _ _ _ _ hS hd (by omega)
  ·rw [crash_sec,e1,e2]
   refine layAll_off D.n j _ _ hlen fun x hx=>?_
   obtain ⟨y,hy,b1,b2⟩:=cutP_in _ _ _ _ hx
   rw [List.mem_singleton] at hy
   subst hy
   dsimp only at b1 b2
   exact ⟨by omega,by omega,by omega⟩
 by_cases h0:D.armed=0
 ·obtain ⟨e,hD⟩:=t1 h0
  rw [hD] at hok
  rw [e,hD]
  exact ⟨.inr ⟨rfl,rfl,cutoff _ rfl rfl⟩,rfl,hok,rfl,by simp⟩
 by_cases h1:D.armed=1
 ·obtain ⟨e,hD⟩:=t2 h1
  rw [hD] at hok
  rw [e,hD]
  exact ⟨.inr ⟨rfl,rfl,cutoff _ rfl rfl⟩,rfl,hok,rfl,by simp⟩
 obtain ⟨e,r,hD⟩:=t3 h0 h1
 rw [hD] at hok
 rw [e,hD]
 refine ⟨.inl ⟨rfl,⟨h.on,h.und,hok⟩,?_,fun j hj hne=>?_⟩,rfl,hok,rfl,by show D.und.length≤1;rw [h.und];simp⟩
 ·show cut (lay D.img ((a+v % 2)*256) (zAw v s)) _ _=_
  have:=cut_lay_torn D.img (zAw v s) ((a+v % 2)*256) 256 hS (Nat.le_refl _) hb
  rw [List.take_of_length_le (by omega)] at this
  rw [this]
  exact torn_full _ _ hS (cut_length _ _ _ hb)
 ·have e2:lay D.img ((a+v % 2)*256) (zAw v s)=zBx D.img [(a+v % 2,zAw v s)]:=rfl
  show cut (lay D.img ((a+v % 2)*256) (zAw v s)) _ _=_
  rw [e2]
  refine layAll_off D.n j _ _ hlen fun x hx=>?_
  rw [List.mem_singleton] at hx
  subst hx
  exact ⟨fun q=>hne q.symm,by dsimp only;omega,by dsimp only;omega⟩
structure Bare (n:Nat) (D:Dsk):Prop where
 still:Still D
 nn:D.n=n
 slot:∃ l,Holds D 0 0 l
 old:Old 0 (D.sec 1)
 log:∀ j,j<logN n→getB ((D.sec (zAt n+j)).drop 248) 8<(zAz 0 j:Nat)
theorem Bare.blank {n:Nat} (h1:64≤n) (h2:n≤65536) (k:Int) (hk:k≤9223372036854775807):Bare n ((Dsk.blank n).arm k):=by
 have hr:=Ready.blank h1 h2
 obtain ⟨l,hl⟩:=hr.slot
 refine ⟨⟨rfl,rfl,Dsk.arm_ok hr.rest.ok k hk⟩,rfl,⟨l,hl.keep fun _ _=>rfl⟩,?_,hr.log⟩
 have e:((Dsk.blank n).arm k).sec 1=zs 256:=blank_sec n 1 (by omega)
 rw [e]
 exact Old.zero
end Go.Proofs.YtnkhohfbijkohaaGreatDoor
namespace Go.Proofs.YtnkhohfbijkohaaGreatDoor
open Go Go.RowKit
theorem recGo_eq {D D':Dsk} {at_ n:Int} {ver:Nat} (h:∀ i,payO D at_ n ver i=payO D' at_ n ver i) (i:Nat) (size:Int):∀ (f k:Nat) (out:List UInt8),recGo D at_ n ver i size f k out=recGo D' at_ n ver i size f k out:=by
 intro f
 induction f with
 |zero=>intro k out;rfl
 |succ f ih=>
  intro k out
  unfold recGo
  rw [h]
  split
  ·rfl
  ·simp only [ih]
theorem recO_eq {D D':Dsk} {at_ n:Int} {ver:Nat} (h:∀ i,payO D at_ n ver i=payO D' at_ n ver i) (i:Nat):recO D at_ n ver i=recO D' at_ n ver i:=by
 unfold recO
 rw [h]
 simp only [recGo_eq h]
theorem rpGo_eq {D D':Dsk} {at_ n:Int} {ver:Nat} (h:∀ i,payO D at_ n ver i=payO D' at_ n ver i):∀ (f i:Nat) (acc:List (List UInt8)),rpGo D at_ n ver f i acc=rpGo D' at_ n ver f i acc:=by
 intro f
 induction f with
 |zero=>intro i acc;rfl
 |succ f ih=>
  intro i acc
  unfold rpGo
  rw [recO_eq h]
  split
  ·rfl
  ·rw [ih]
theorem pay_sec {D D':Dsk} (h:Still D) (h':Still D') (hn:D'.n=D.n) (at_ m ver:Nat) (hat:at_+m≤D.n) (hs:∀ j,j<m→D'.sec (at_+j)=D.sec (at_+j)) (i:Nat):payO D (at_:Nat) (m:Nat) ver i=payO D' (at_:Nat) (m:Nat) ver i:=by
 unfold payO
 by_cases hi:((m:Nat):Int)≤(i:Int)
 ·rw [if_pos hi,if_pos hi]
 rw [if_neg hi,if_neg hi]
 have e:((at_:Nat):Int)+(i:Nat)=((at_+i:Nat):Int):=by omega
 have h1:D.has ((at_+i:Nat):Int)=true:=by unfold Dsk.has;exact decide_eq_true (by omega)
 have h2:D'.has ((at_+i:Nat):Int)=true:=by unfold Dsk.has;exact decide_eq_true (by omega)
 have r1:D.readE ((at_+i:Nat):Int)=0:=by unfold Dsk.readE;rw [h.on,h1];rfl
 have r2:D'.readE ((at_+i:Nat):Int)=0:=by unfold Dsk.readE;rw [h'.on,h2];rfl
 have s1:D.readS ((at_+i:Nat):Int)=D.sec (at_+i):=by unfold Dsk.readS Dsk.rd;rw [h.on,h1,h.und];rfl
 have s2:D'.readS ((at_+i:Nat):Int)=D'.sec (at_+i):=by unfold Dsk.readS Dsk.rd;rw [h'.on,h2,h'.und];rfl
 rw [e,r1,r2,s1,s2,hs i (by omega)]
theorem count_lt {raw:List UInt8} {v:Nat} (hv:1≤v) (h:getB (raw.drop 248) 8≤(v:Int)):zBv raw (((v+1) % 2:Nat):Int)<(v:Int):=by
 unfold zBv countO
 split
 ·simp;omega
 split
 ·simp;omega
 split
 ·simp;omega
 split
 ·simp;omega
 split
 ·simp;omega
 ·rename_i h2 h3 h4 h5
  cases openS (getB raw 8) raw with
  |none=>simp;omega
  |some p=>
   show getB raw 8<(v:Int)
   have:getB raw 8=getB (raw.drop 248) 8:=Classical.byContradiction fun q=>h2 q
   have h6:getB raw 8 % 2=(((v+1) % 2:Nat):Int):=Classical.byContradiction fun q=>h5 q
   omega
theorem torn_less {s t d:Nat} {p old:List UInt8} (hs:s<2 ^ 64) (ht:t<s) (hp:p.length≤234) (ho:old.length=256) (hd:d≤256) (htail:getB (old.drop 248) 8≤(t:Int)) :
 tornB (zAw s p) old d=zAw s p∨getB ((tornB (zAw s p) old d).drop 248) 8<(s:Int):=by
 have hl:=zBm (s:Int) p hp
 have hl2:=torn_length hl ho hd
 obtain ⟨v,hv,hg,hb⟩:=getB_bytes (old.drop 248) 8 (by omega)
 rw [hg] at htail
 obtain ⟨w,hw,hwb⟩:=mix_tail s v (d-248) (by omega)
 have hT:∀ i,i<8→((tornB (zAw s p) old d).drop 248).getD i 0=byteAt (w:Int) i:=by
  intro i hi
  rw [getD_drop,torn_get hl hd,hwb i hi]
  by_cases h:248+i<d
  ·rw [if_pos h,if_pos (by omega),seal_tail s p hp _ (by omega) (by omega),Nat.add_sub_cancel_left]
  ·rw [if_neg h,if_neg (by omega),← hb i hi,getD_drop]
 have hG:getB ((tornB (zAw s p) old d).drop 248) 8=(w:Int):=by
  rw [getB_of _ w 8 (by omega) hT,Nat.mod_eq_of_lt (by omega)]
 by_cases hws:w=s
 ·left
  subst hws
  have hdd:248<d:=by
   rcases Nat.lt_or_ge 248 d with h|h
   ·exact h
   ·exfalso
    have h1:=getB_of (old.drop 248) w 8 (by omega) (fun i hi=>by rw [hb i hi,hwb i hi,if_neg (by omega)])
    rw [hg,Nat.mod_eq_of_lt (by omega)] at h1
    omega
  refine ext_getD _ _ (by rw [hl,hl2]) fun i hi=>?_
  rw [hl2] at hi
  by_cases h:i<d
  ·rw [torn_get hl hd,if_pos h]
  ·have h1:=hT (i-248) (by omega)
   rw [getD_drop,show 248+(i-248)=i by omega] at h1
   rw [h1,seal_tail w p hp i (by omega) hi]
 ·right
  rw [hG]
  omega
structure RdO (n:Nat) (r:Rows) (recs:List (List UInt8)) (v:Nat) (D:Dsk):Prop where
 still:Still D
 nn:D.n=n
 here:D.sec (v % 2)=zAw v (hdrB n (zAj r).length)
 other:getB ((D.sec ((v+1) % 2)).drop 248) 8≤(v:Int)
 area:∀ k,234*k<(zAj r).length→D.sec (zBj n v+k)=zAw v (((zAj r).drop (234*k)).take 234)
 rp:rpGo D (zAt n:Nat) (logN n:Nat) v (((logN n:Nat):Int).toNat+1) 0 []=recs
 tails:∀ j,j<logN n→getB ((D.sec (zAt n+j)).drop 248) 8≤(zAz v j:Nat)
theorem RdO.holds {n v:Nat} {r:Rows} {recs:List (List UInt8)} {D:Dsk} (h:RdO n r recs v D) (hv:1≤v∧v≤1099511627776) (hh:(hdrB n (zAj r).length).length≤234):Holds D 0 v (hdrB n (zAj r).length):=by
 refine ⟨fun _=>?_,?_,fun q=>by omega⟩
 ·rw [Nat.zero_add,h.here,show ((v % 2:Nat):Int)=(v:Int) % 2 by omega]
  exact seal_count v _ hh hv.1 hv.2
 ·rw [Nat.zero_add,if_neg (by omega)]
  exact count_lt hv.1 h.other
theorem RdO.same {n v:Nat} {r:Rows} {recs:List (List UInt8)} {D D':Dsk} (h:RdO n r recs v D) (h1:64≤n) (hD:Still D') (hn:D'.n=n) (h0:D'.sec (v % 2)=D.sec (v % 2)) (hoth:getB ((D'.sec ((v+1) % 2)).drop 248) 8≤(v:Int)) (hr:(zAj r).length≤234*layA n)
 (hs:∀ j,j<n→2≤j→(j<zBj n (v+1)∨zBj n (v+1)+layA n≤j)→D'.sec j=D.sec j):RdO n r recs v D':=by
 obtain ⟨f1,f2,f3,f4⟩:=zBn h1 v
 obtain ⟨g1,g2,g3,g4⟩:=zBn h1 (v+1)
 have hnn:=h.nn
 have hap:zBj n v+layA n≤zBj n (v+1)∨zBj n (v+1)+layA n≤zBj n v:=by
  unfold zBj
  rcases (show v % 2=0∨v % 2=1 by omega) with q|q
  ·rw [if_pos q,if_neg (by omega)];omega
  ·rw [if_neg (by omega),if_pos (by omega)];omega
 refine ⟨hD,hn,by rw [h0];exact h.here,hoth,fun k hk=>?_,?_,fun j hj=>?_⟩
 ·rw [hs _ (by omega) (by omega) (by omega)]
  exact h.area k hk
 ·rw [← rpGo_eq (pay_sec h.still hD (by rw [hn,hnn]) (zAt n) (logN n) v (by omega) fun j hj=>hs _ (by omega) (by omega) (.inr (by omega)))]
  exact h.rp
 ·rw [hs _ (by omega) (by omega) (.inr (by omega))]
  exact h.tails j hj
def foldE (D:Dsk) (n v:Nat) (r:Rows):Nat:=if (areaW D (zBj n (v+1)) (layA n) ((v+1:Nat):Int) (zAj r)).1≠0 then (areaW D (zBj n (v+1)) (layA n) ((v+1:Nat):Int) (zAj r)).1 else slotWE (fldA D n (v+1) r) 0 ((v+1:Nat):Int) (hdrB n (zAj r).length)
def foldW (D:Dsk) (n v:Nat) (r:Rows):Dsk:=if (areaW D (zBj n (v+1)) (layA n) ((v+1:Nat):Int) (zAj r)).1≠0 then fldA D n (v+1) r else fldD D n (v+1) r
theorem RdO.log0 {n v:Nat} {D:Dsk} (h1:64≤n) (hD:Still D) (hn:D.n=n) (hv:1≤v∧v≤1099511627776) (h2:n≤65536) (ht:∀ j,j<logN n→getB ((D.sec (zAt n+j)).drop 248) 8<(zAz v j:Nat)):rpGo D (zAt n:Nat) (logN n:Nat) v (((logN n:Nat):Int).toNat+1) 0 []=[]:=by
 obtain ⟨f1,f2,f3,f4⟩:=zBn h1 v
 have hlN:1≤logN n:=by unfold logN layA;omega
 have hp:payO D (zAt n:Nat) (logN n:Nat) v 0=none:=by
  unfold payO
  rw [if_neg (by omega)]
  have h1:D.has ((zAt n+0:Nat):Int)=true:=by unfold Dsk.has;exact decide_eq_true (by omega)
  have e:((zAt n:Nat):Int)+((0:Nat):Int)=((zAt n+0:Nat):Int):=by omega
  have r1:D.readE ((zAt n+0:Nat):Int)=0:=by unfold Dsk.readE;rw [hD.on,h1];rfl
  have s1:D.readS ((zAt n+0:Nat):Int)=D.sec (zAt n+0):=by unfold Dsk.readS Dsk.rd;rw [hD.on,h1,hD.und];rfl
  rw [e,r1,if_neg (by simp),s1]
  exact openS_tail (stamp_lt hv.2 (by omega)) (ht 0 (by omega))
 have hr:=recO_none (i:=0) hp
 show (match recO D (zAt n:Nat) (logN n:Nat) v 0 with|none=>[]|some (s,u)=>rpGo D (zAt n:Nat) (logN n:Nat) v ((logN n:Nat):Int).toNat (0+u.toNat) ([]++[s]))=[]
 rw [hr]
theorem RdO.fold {n v:Nat} {r0:Rows} {recs:List (List UInt8)} {D:Dsk} (h:RdO n r0 recs v D) (h1:64≤n) (h2:n≤65536) (hv:1≤v∧v+1≤1099511627776) (hr0:(zAj r0).length≤234*layA n) (r:Rows) (hr:(zAj r).length≤234*layA n) :
 ((foldE D n v r=0∧RdO n r [] (v+1) (foldW D n v r)∧∀ j,j<logN n→getB (((foldW D n v r).sec (zAt n+j)).drop 248) 8<(zAz (v+1) j:Nat))∨(foldE D n v r=12∧(foldW D n v r).off=true))∧
 (foldW D n v r).n=n∧(foldW D n v r).ok∧(foldW D n v r).life=D.life∧(foldW D n v r).und.length≤layA n∧
 ∀ kept torn bytes,RdO n r [] (v+1) ((foldW D n v r).crash kept torn bytes)∨(foldE D n v r=12∧RdO n r0 recs v ((foldW D n v r).crash kept torn bytes)):=by
 obtain ⟨f1,f2,f3,f4⟩:=zBn h1 (v+1)
 have hn:=h.nn
 have hlA:layA n≤65536:=by unfold layA;omega
 have hm2:(v+1) % 2<2:=Nat.mod_lt _ (by omega)
 have hm0:v % 2<2:=Nat.mod_lt _ (by omega)
 have hm1:v % 2≠(v+1) % 2:=by omega
 have hvv:(v+1+1) % 2=v % 2:=by omega
 obtain ⟨a1,a2,a3,a4,a5⟩:=area_ways h.still (zBj n (v+1)) (layA n) (v+1) (zAj r) (by omega) (by omega) hr hlA
 have hh:(hdrB n (zAj r).length).length≤234:=Nat.le_trans (hdrB_len _ _) (by omega)
 have hh0:(hdrB n (zAj r0).length).length≤234:=Nat.le_trans (hdrB_len _ _) (by omega)
 have hst:∀ j,((zAz v j:Nat):Int)<((zAz (v+1) j:Nat):Int):=fun j=>by unfold zAz;omega
 have crst:∀ {D':Dsk},D'.ok→∀ kept torn bytes,Still (D'.crash kept torn bytes):=fun ok' kept torn bytes=>⟨rfl,rfl,Dsk.crash_ok ok' kept torn bytes⟩
 rcases a1 with ⟨e0,s0,c0,o0⟩|⟨e0,o1,c1⟩
 ·have eE:foldE D n v r=slotWE (fldA D n (v+1) r) 0 ((v+1:Nat):Int) (hdrB n (zAj r).length):=by unfold foldE;rw [if_neg (by rw [e0];simp)]
  have eW:foldW D n v r=fldD D n (v+1) r:=by unfold foldW;rw [if_neg (by rw [e0];simp)]
  have hA:(areaW D (zBj n (v+1)) (layA n) ((v+1:Nat):Int) (zAj r)).2=fldA D n (v+1) r:=rfl
  rw [hA] at s0 c0 o0 a2 a3 a4 a5
  rw [eE,eW]
  obtain ⟨b1,b2,b3,b4,b5⟩:=slot_ways (D:=fldA D n (v+1) r) s0 0 (v+1) (hdrB n (zAj r).length) (by omega) (by omega) hv.2 hh
  have hD:zCh (fldA D n (v+1) r) ((0:Nat):Int) ((v+1:Nat):Int) (hdrB n (zAj r).length)=fldD D n (v+1) r:=rfl
  rw [hD] at b1 b2 b3 b4 b5
  rw [Nat.zero_add] at b1
  have hA0:∀ j,j<2→(fldA D n (v+1) r).sec j=D.sec j:=fun j hj=>o0 j (by omega) (.inl (by omega))
  have good:∀ D':Dsk,Still D'→D'.n=n→D'.sec ((v+1) % 2)=zAw ((v+1:Nat):Int) (hdrB n (zAj r).length)→(∀ j,j<n→j≠(v+1) % 2→D'.sec j=(fldA D n (v+1) r).sec j)→RdO n r [] (v+1) D'∧∀ j,j<logN n→getB ((D'.sec (zAt n+j)).drop 248) 8<(zAz (v+1) j:Nat):=by
   intro D' st' n' s1 sj
   have ht:∀ j,j<logN n→getB ((D'.sec (zAt n+j)).drop 248) 8<(zAz (v+1) j:Nat):=fun j hj=>by
    rw [sj _ (by omega) (by omega),o0 _ (by omega) (.inr (by omega))]
    have:=h.tails j hj
    have:=hst j
    omega
   refine ⟨⟨st',n',s1,?_,fun k hk=>?_,RdO.log0 h1 st' n' ⟨by omega,hv.2⟩ h2 ht,fun j hj=>Int.le_of_lt (ht j hj)⟩,ht⟩
   ·rw [hvv,sj _ (by omega) hm1,hA0 _ hm0,h.here,seal_getT v _ hh0 (by omega)]
    omega
   ·rw [sj _ (by omega) (by omega)]
    exact c0 k hk
  rcases b1 with ⟨g0,g1,g2,g3⟩|⟨g0,g1,g2⟩
  ·have gn:(fldD D n (v+1) r).n=n:=by rw [b2,a2,hn]
   have gd:=good _ g1 gn g2 (fun j hj hne=>g3 j (by omega) hne)
   refine ⟨.inl ⟨g0,gd.1,gd.2⟩,gn,b3,by rw [b4,a4],by omega,fun kept torn bytes=>.inl ?_⟩
   refine (good _ (crst b3 _ _ _) (by show (fldD D n (v+1) r).n=n;exact gn) ?_ (fun j hj hne=>?_)).1
   ·rw [still_crash g1];exact g2
   ·rw [still_crash g1];exact g3 j (by omega) hne
  ·refine ⟨.inr ⟨g0,g1⟩,by rw [b2,a2,hn],b3,by rw [b4,a4],by omega,fun kept torn bytes=>?_⟩
   obtain ⟨⟨d,hd,g3⟩,g4⟩:=g2 kept torn bytes
   have hn':((fldD D n (v+1) r).crash kept torn bytes).n=n:=by show (fldD D n (v+1) r).n=n;rw [b2,a2,hn]
   rw [hA0 _ hm2] at g3
   have hol:(D.sec ((v+1) % 2)).length=256:=cut_length _ _ _ (by have:=h.still.ok.len;omega)
   rcases torn_less (s:=v+1) (t:=v) (by omega) (by omega) hh hol hd h.other with t|t
   ·left
    exact (good _ (crst b3 _ _ _) hn' (by rw [g3,t]) (fun j hj hne=>g4 j (by omega) hne)).1
   ·right
    refine ⟨g0,h.same h1 (crst b3 _ _ _) hn' ?_ ?_ hr0 (fun j hj h2j hout=>?_)⟩
    ·rw [g4 _ (by omega) hm1,hA0 _ hm0]
    ·rw [g3];omega
    ·rw [g4 _ (by omega) (by omega),o0 _ (by omega) hout]
 ·have eE:foldE D n v r=12:=by unfold foldE;rw [if_pos (by rw [e0];simp),e0]
  have eW:foldW D n v r=fldA D n (v+1) r:=by unfold foldW;rw [if_pos (by rw [e0];simp)]
  have hA:(areaW D (zBj n (v+1)) (layA n) ((v+1:Nat):Int) (zAj r)).2=fldA D n (v+1) r:=rfl
  rw [hA] at o1 c1 a2 a3 a4 a5
  rw [eE,eW]
  refine ⟨.inr ⟨rfl,o1⟩,by rw [a2,hn],a3,a4,a5,fun kept torn bytes=>.inr ⟨rfl,h.same h1 (crst a3 _ _ _) (by show (fldA D n (v+1) r).n=n;rw [a2,hn]) (c1 _ _ _ _ (by omega) (.inl (by omega))) ?_ hr0 (fun j hj _ hout=>c1 _ _ _ _ (by omega) hout)⟩⟩
  rw [c1 _ _ _ _ (by omega) (.inl (by omega))]
  exact h.other
end Go.Proofs.YtnkhohfbijkohaaGreatDoor
namespace Go.Proofs.YtnkhohfbijkohaaGreatDoor
open Go Go.RowKit
structure WkO (n:Nat) (r:Rows) (recs:List (List UInt8)) (v:Nat) (D:Dsk):Prop where
 still:Still D
 nn:D.n=n
 here:D.sec (v % 2)=zAw v (hdrB n (zAj r).length)
 other:getB ((D.sec ((v+1) % 2)).drop 248) 8≤(v:Int)
 area:∀ k,234*k<(zAj r).length→D.sec (zBj n v+k)=zAw v (((zAj r).drop (234*k)).take 234)
 log:JL n (zAt n) (logN n) v D.life recs recs.length D
theorem WkO.rd {n v:Nat} {r:Rows} {recs:List (List UInt8)} {D:Dsk} (h:WkO n r recs v D) (h1:64≤n) (h2:n≤176) (hv:1≤v∧v+1≤1099511627776):RdO n r recs v D:=by
 obtain ⟨f1,f2,f3,f4⟩:=zBn h1 v
 have hl60:logN n≤60:=by unfold logN layA;omega
 refine ⟨h.still,h.nn,h.here,h.other,h.area,JL.now h.log h.still.on ⟨hv.1,by omega⟩ (by omega) hl60,fun j hj=>?_⟩
 obtain ⟨-,t,-⟩:=JL.crash h.log hv (by omega) hl60 [] 0 0
 have:=t j hj
 rwa [still_crash h.still] at this
theorem WkO.of {n v:Nat} {r:Rows} {D:Dsk} (h:RdO n r [] v D) (ht:∀ j,j<logN n→getB ((D.sec (zAt n+j)).drop 248) 8<(zAz v j:Nat)):WkO n r [] v D:=
 ⟨h.still,h.nn,h.here,h.other,h.area,JL.start h.still.ok h.nn h.still.und ht⟩
def appE (D:Dsk) (n v used:Nat) (rc:List UInt8):Nat:=if (apGo (zAt n:Nat) v used (pcsJ rc) 0 D).1=false then 12 else (apGo (zAt n:Nat) v used (pcsJ rc) 0 D).2.flushE
def appW (D:Dsk) (n v used:Nat) (rc:List UInt8):Dsk:=if (apGo (zAt n:Nat) v used (pcsJ rc) 0 D).1=false then (apGo (zAt n:Nat) v used (pcsJ rc) 0 D).2 else (apGo (zAt n:Nat) v used (pcsJ rc) 0 D).2.flushD
theorem WkO.cut {n v:Nat} {r:Rows} {recs:List (List UInt8)} {D:Dsk} (h:WkO n r recs v D) (h1:64≤n) (h2:n≤176) (hv:1≤v∧v+1≤1099511627776) (hr:(zAj r).length≤234*layA n) (rc:List UInt8) (hfit:(recs.flatMap pcsJ).length+(pcsJ rc).length≤logN n)
 {D1:Dsk} (himg:D1.img=D.img) (hund:∃ m,D1.und=(wsJ (zAt n) v (recs.flatMap pcsJ).length (pcsJ rc)).take m) (hJ:JL n (zAt n) (logN n) v D.life (recs++[rc]) recs.length D1) (kept:List Bool) (torn bytes:Int) :
 RdO n r recs v (D1.crash kept torn bytes)∨RdO n r (recs++[rc]) v (D1.crash kept torn bytes):=by
 obtain ⟨f1,f2,f3,f4⟩:=zBn h1 v
 have hl60:logN n≤60:=by unfold logN layA;omega
 obtain ⟨m,hu⟩:=hund
 obtain ⟨⟨k,k1,k2,k3⟩,t,-,hok,hn'⟩:=JL.crash hJ hv (by omega) hl60 kept torn bytes
 have hlen:=h.still.ok.len
 have hnn:=h.nn
 have hs:∀ j,j<zAt n→(D1.crash kept torn bytes).sec j=D.sec j:=fun j hj=>by
  rw [crash_sec,himg,hu]
  exact torn_ws_off (zAt n) v D.n _ (pcsJ rc) (recs.flatMap pcsJ).length m 0 j D.img hlen (by omega) (pcsJ_le rc) (.inl (by omega))
 have hm0:v % 2<2:=Nat.mod_lt _ (by omega)
 have hm1:(v+1) % 2<2:=Nat.mod_lt _ (by omega)
 have mk:∀ rs,rpGo (D1.crash kept torn bytes) (zAt n:Nat) (logN n:Nat) v (((logN n:Nat):Int).toNat+1) 0 []=rs→RdO n r rs v (D1.crash kept torn bytes):=fun rs hrs=>
  ⟨⟨rfl,rfl,hok⟩,hn',by rw [hs _ (by omega)];exact h.here,by rw [hs _ (by omega)];exact h.other,fun k hk=>by rw [hs _ (by omega)];exact h.area k hk,hrs,t⟩
 rw [List.length_append,List.length_singleton] at k2
 rcases (show k=recs.length∨k=recs.length+1 by omega) with q|q
 ·left
  refine mk _ ?_
  rw [k3,q,List.take_left]
 ·right
  refine mk _ ?_
  rw [k3,q,List.take_of_length_le (by rw [List.length_append,List.length_singleton];omega)]
theorem WkO.append {n v:Nat} {r:Rows} {recs:List (List UInt8)} {D:Dsk} (h:WkO n r recs v D) (h1:64≤n) (h2:n≤176) (hv:1≤v∧v+1≤1099511627776) (hr:(zAj r).length≤234*layA n) (rc:List UInt8) (hrc:rc.length≤14040) (hfit:(recs.flatMap pcsJ).length+(pcsJ rc).length≤logN n) :
 ((appE D n v (recs.flatMap pcsJ).length rc=0∧WkO n r (recs++[rc]) v (appW D n v (recs.flatMap pcsJ).length rc))∨(appE D n v (recs.flatMap pcsJ).length rc=12∧(appW D n v (recs.flatMap pcsJ).length rc).off=true))∧
 (appW D n v (recs.flatMap pcsJ).length rc).n=n∧(appW D n v (recs.flatMap pcsJ).length rc).ok∧(appW D n v (recs.flatMap pcsJ).length rc).life=D.life∧(appW D n v (recs.flatMap pcsJ).length rc).und.length≤logN n∧
 (appE D n v (recs.flatMap pcsJ).length rc=12→∀ kept torn bytes,RdO n r recs v ((appW D n v (recs.flatMap pcsJ).length rc).crash kept torn bytes)∨RdO n r (recs++[rc]) v ((appW D n v (recs.flatMap pcsJ).length rc).crash kept torn bytes)):=by
 obtain ⟨f1,f2,f3,f4⟩:=zBn h1 v
 have hl60:logN n≤60:=by unfold logN layA;omega
 have hnn:=h.nn
 have hlen:=h.still.ok.len
 obtain ⟨w1,w2,w3,w4,w5⟩:=ap_ways (zAt n) v (recs.flatMap pcsJ).length (pcsJ rc) 0 D h.still.on h.still.ok (pcsJ_le rc) (by omega)
 obtain ⟨a1,a2⟩:=JL.append h.log h.still.on (by omega) hl60 rc hrc hfit
 have hcut:=fun (D1:Dsk)=>h.cut (D1:=D1) h1 h2 hv hr rc hfit
 have hm0:v % 2<2:=Nat.mod_lt _ (by omega)
 have hm1:(v+1) % 2<2:=Nat.mod_lt _ (by omega)
 unfold appE appW
 obtain ⟨A,hA⟩:∃ A,A=apGo (zAt n:Nat) v (recs.flatMap pcsJ).length (pcsJ rc) 0 D:=⟨_,rfl⟩
 rw [← hA] at w1 w2 w3 w4 w5 a1 a2 ⊢
 clear hA
 simp only [h.still.und,List.nil_append,Nat.add_zero] at w1
 have hwl:=wsJ_length (zAt n) v (pcsJ rc) (recs.flatMap pcsJ).length
 rcases w1 with ⟨b1,b2,b3⟩|⟨b1,b2,m,b3⟩
 ·have hne:¬ (A.1=false):=by rw [b1];simp
  rw [if_neg hne,if_neg hne]
  have hund:∃ m,A.2.und=(wsJ (zAt n) v (recs.flatMap pcsJ).length (pcsJ rc)).take m:=⟨(pcsJ rc).length,by rw [List.take_of_length_le (by omega)];exact b3⟩
  obtain ⟨g1,g2,-⟩:=flush_ways b2
  obtain ⟨x1,x2⟩:=fl_off b2
  have hok:=Dsk.flushD_ok w4
  rcases JL.sync a1 b2 (by omega) (by omega) hl60 with ⟨c1,c2,c3⟩|⟨c1,c2,c3⟩
  ·rcases g1 with ⟨d1,d2,d3,d4⟩|⟨d1,-,-⟩
   ·have hs:∀ j,j<zAt n→A.2.flushD.sec j=D.sec j:=fun j hj=>by
     unfold Dsk.sec
     rw [d4,w2,b3]
     refine layAll_off D.n j _ _ hlen fun x hx=>?_
     obtain ⟨e1,e2,e3⟩:=wsJ_in (zAt n) v (pcsJ rc) (recs.flatMap pcsJ).length (pcsJ_le rc) x hx
     exact ⟨by omega,by omega,by omega⟩
    refine ⟨.inl ⟨d1,⟨⟨d2,d3,hok⟩,by rw [g2,w3,hnn],by rw [hs _ (by omega)];exact h.here,by rw [hs _ (by omega)];exact h.other,fun k hk=>by rw [hs _ (by omega)];exact h.area k hk,by rw [x2,w5];exact c3⟩⟩,by rw [g2,w3,hnn],hok,by rw [x2,w5],by rw [d3];simp,fun q=>by rw [d1] at q;cases q⟩
   ·rw [d1] at c1;cases c1
  ·rcases g1 with ⟨d1,-⟩|⟨d1,d2,d3⟩
   ·rw [d1] at c1;cases c1
   ·refine ⟨.inr ⟨c1,c2⟩,by rw [g2,w3,hnn],hok,by rw [x2,w5],by rw [d2,b3,hwl];omega,fun _ kept torn bytes=>?_⟩
    exact hcut _ (by rw [d3,w2]) (by rw [d2];exact hund) c3 kept torn bytes
 ·rw [if_pos b1,if_pos b1]
  refine ⟨.inr ⟨rfl,b2⟩,by rw [w3,hnn],w4,w5,by rw [b3,List.length_take,hwl];omega,fun _ kept torn bytes=>hcut _ w2 ⟨m,b3⟩ a1 kept torn bytes⟩
theorem WkO.crash {n v:Nat} {r:Rows} {recs:List (List UInt8)} {D:Dsk} (h:WkO n r recs v D) (h1:64≤n) (h2:n≤176) (hv:1≤v∧v+1≤1099511627776) (kept:List Bool) (torn bytes:Int):RdO n r recs v (D.crash kept torn bytes):=by
 obtain ⟨f1,f2,f3,f4⟩:=zBn h1 v
 have hr:=h.rd h1 h2 hv
 have hn:=h.nn
 have hs:∀ j,(D.crash kept torn bytes).sec j=D.sec j:=fun j=>still_crash h.still kept torn bytes j
 have st:Still (D.crash kept torn bytes):=⟨rfl,rfl,Dsk.crash_ok h.still.ok _ _ _⟩
 refine ⟨st,hn,by rw [hs];exact h.here,by rw [hs];exact h.other,fun k hk=>by rw [hs];exact h.area k hk,?_,fun j hj=>by rw [hs];exact hr.tails j hj⟩
 rw [← rpGo_eq (pay_sec h.still st rfl (zAt n) (logN n) v (by omega) fun j _=>hs _)]
 exact hr.rp
theorem WkO.arm {n v:Nat} {r:Rows} {recs:List (List UInt8)} {D:Dsk} (h:WkO n r recs v D) (k:Int) (hk:k≤9223372036854775807):WkO n r recs v (D.arm k):=by
 have hj:=h.log
 exact ⟨⟨h.still.on,h.still.und,Dsk.arm_ok h.still.ok k hk⟩,h.nn,h.here,h.other,h.area,⟨Dsk.arm_ok hj.ok k hk,hj.n40,hj.life,hj.fit,hj.small,hj.syl,hj.whole,hj.old,hj.und⟩⟩
theorem RdO.arm {n v:Nat} {r:Rows} {recs:List (List UInt8)} {D:Dsk} (h:RdO n r recs v D) (h1:64≤n) (k:Int) (hk:k≤9223372036854775807):RdO n r recs v (D.arm k):=by
 obtain ⟨f1,f2,f3,f4⟩:=zBn h1 v
 have hn:=h.nn
 have st:Still (D.arm k):=⟨h.still.on,h.still.und,Dsk.arm_ok h.still.ok k hk⟩
 refine ⟨st,h.nn,h.here,h.other,h.area,?_,h.tails⟩
 rw [← rpGo_eq (pay_sec h.still st rfl (zAt n) (logN n) v (by omega) fun j _=>rfl)]
 exact h.rp
end Go.Proofs.YtnkhohfbijkohaaGreatDoor
namespace Go.Proofs.YtnkhohfbijkohaaGreatDoor
open Go Go.RowKit
section
variable {W:World} {F:Nat→Addr} {N:List Nd} {a:Option Addr} {r:Rows} {q s d n g:Nat} {b:Int} {D:Dsk}
set_option maxRecDepth 100000 in
theorem scommitKS_ct (hE8:ErrsOn L8 W F) (e17:W.cell? ⟨4,0,none⟩=some (errV F 17)) (hN:NibAt W) (h1:64≤n) (h2:n≤65536) (v used:Nat) (hv:1≤v∧v≤1099511627776) (hD:Still D) (hn:D.n=n)
 (hT:TbOk N a r) (A:SP) (oa:Option Addr) (oc:Nat) (ops:List BOp) (hL:Lv W opC 3 A oa ops) (ho:ops.length*40≤140737488355328) (hne:zAr ops≠[]) (hl:r.length+ops.length≤144115188075855872)
 (rec_:List UInt8) (henc:encode (zAr ops)=(rec_,0)) (hrec:(zAx (zAr ops)).length+64≤140737488355328) (hsz:rec_.length≤1048576) (hlg:(rec_.length:Int)≤zBi (logN n:Nat)) (hfit:used+(pcsJ rec_).length≤logN n) (hroom:(zAj (zAu r (zAr ops))).length≤234*layA n) (p1:(apGo (zAt n:Nat) v used (pcsJ rec_) 0 D).1=true) (p2:(apGo (zAt n:Nat) v used (pcsJ rec_) 0 D).2.off=false) (p3:(apGo (zAt n:Nat) v used (pcsJ rec_) 0 D).2.life=D.life) (p4:(apGo (zAt n:Nat) v used (pcsJ rec_) 0 D).2.und.length<1073741823) (p6:(apGo (zAt n:Nat) v used (pcsJ rec_) 0 D).2.flushE=0) :
 Ct Tryz.prog W 25 [.pointer (some ⟨s,0,none⟩),.slice oa ops.length oc] [A,stP s d q n (v:Nat) (some ⟨g,0,none⟩) D.life false,DiskP d D,tbP q a b,arP N,jouU g d n v used D.life]
  (fun _:TbQ N (zAu r (zAr ops))=>.nilIface)
  (fun x=>[A,stP s d q n (v:Nat) (some ⟨g,0,none⟩) D.life false,DiskP d (apGo (zAt n:Nat) v used (pcsJ rec_) 0 D).2.flushD,tbP q x.1.2.1 x.1.2.2,arP x.1.1,jouU g d n v (used+(pcsJ rec_).length) D.life]):=by
 obtain ⟨f1,f2,f3,f4⟩:=zBn h1 v
 have hA:=layA_le h2
 have hdn:zCg D D.life false=false:=by unfold zCg;rw [hD.on];simp
 have hpl:=pcsJ_length rec_
 have cdn:=sup_ct (W:=W) (s:=s) (d:=d) (q:=q) (n:=n) (v:Nat) (some ⟨g,0,none⟩) D.life hdn
 have cno:=bnormal_ct (W:=W) A oa oc ops hL ho
 have hnl:(zAr ops).length≤ops.length:=nrm_len ops
 obtain ⟨os,hos⟩:∃ os,os=zAr ops:=⟨_,rfl⟩
 rw [← hos] at cno hnl hne henc hrec hroom ⊢
 have hown:∀ xa xc,Lv W opC 3 (lsP opC 73 3 (.slice xa os.length xc) os) xa os:=fun xa xc=>Lv.own enc_op rfl
 have cen:=fun xa xc=>bencode_ct (W:=W) (F:=F) _ xa xc os (hown xa xc) hrec (by omega) (fun h=>by rw [henc] at h;cases h) (fun h=>by rw [henc] at h;cases h)
 rw [henc] at cen
 have clg:=slargest_ct (W:=W) (s:=s) (d:=d) (q:=q) (n:=n) (v:Nat) (some ⟨g,0,none⟩) D.life false h2
 have cro:=sroom_ct (W:=W) (s:=s) (d:=d) (q:=q) (n:=n) (v:Nat) (some ⟨g,0,none⟩) D.life false h2
 have caf:=fun xa xc=>safter_ct (W:=W) (s:=s) (d:=d) (q:=q) (n:=n) (b:=b) (v:Nat) (some ⟨g,0,none⟩) D.life false hT _ xa xc os (hown xa xc) (by omega) (by omega)
 have cfi:=fits_ct (W:=W) (p:=d) (g:=g) (zAt n:Nat) (logN n:Nat) (v:Nat) (used:Nat) D.life false rec_.length (by omega) ⟨by omega,by omega⟩ ⟨by omega,by omega⟩
 rw [show decide (0≤(rec_.length:Int)∧costI rec_.length≤(logN n:Nat)-(used:Nat))=true from decide_eq_true ⟨by omega,by omega⟩] at cfi
 have cap:=append_ct (W:=W) (p:=d) (g:=g) (D:=D) hE8 e17 hN (zAt n:Nat) (logN n:Nat) D.life v used rec_ (by omega) hdn ⟨by omega,by omega⟩ (by omega) hsz (by omega) ⟨by omega,by omega⟩ hv (by rw [hD.und];simp)
 rw [p1] at cap
 have hu2:(used:Int)+costI rec_.length=((used+(pcsJ rec_).length:Nat):Int):=by omega
 simp only [if_true,Bool.not_true,hu2] at cap
 have csy:=sync_ct (W:=W) (p:=d) (g:=g) (D:=(apGo (zAt n:Nat) v used (pcsJ rec_) 0 D).2) hE8 (zAt n:Nat) (logN n:Nat) (v:Nat) ((used+(pcsJ rec_).length:Nat):Int) D.life (by unfold zCg;rw [p2,p3];simp) (by omega)
 rw [p6] at csy
 simp only [if_true] at csy
 obtain ⟨D1,hD1⟩:∃ D1,D1=(apGo (zAt n:Nat) v used (pcsJ rec_) 0 D).2:=⟨_,rfl⟩
 rw [← hD1] at cap csy ⊢
 obtain ⟨u2,hu2'⟩:∃ u,u=used+(pcsJ rec_).length:=⟨_,rfl⟩
 rw [← hu2'] at cap csy ⊢
 have cba:=fun (M:List Nd) (hM:∀ y ∈ N,y ∈ M) xa xc=>bapply_ct (W:=W) (p:=q) (tb:=b) (hT.mono hM) _ xa xc os (hown xa xc) (by omega)
 have q0:decide (((os.length:Nat):Int)=0)=false:=decide_eq_false (by
  have:=List.length_pos_iff.2 hne
  omega)
 have q1:decide (zBi (logN n:Nat)<(rec_.length:Nat))=false:=decide_eq_false (by omega)
 have q2:decide (((234*layA n:Nat):Int)<((zAj (zAu r os)).length:Nat))=false:=decide_eq_false (by omega)
 clear hD1 hu2' hu2
 refine Ct.enter Tryz.func25 rfl Tryz.ntmps25 (by simp) (fun R=>?_)
 repeat' (first|(refine zAd ?_;first|(refine zAa xE (cba M hM _ _) xP rfl (fun y=>?_);obtain ⟨⟨M2,a2,b2⟩,gM,hT2⟩:=y;dsimp only at gM hT2 ⊢)|(refine zAa xE csy xP rfl (fun _=>?_))|(refine zAa xE cap xP rfl (fun _=>?_))|(refine zAa xE cfi xP rfl (fun _=>?_))|(refine zAa xE cro xP rfl (fun _=>?_))|(refine zAa xE (caf _ _) xP rfl (fun M=>?_);obtain ⟨M,hM⟩:=M;dsimp only at hM ⊢)|(refine zAa xE clg xP rfl (fun _=>?_))|(refine zAa xE (cen _ _) xP rfl (fun _=>?_))|(refine zAa xE cno xP rfl (fun x=>?_);obtain ⟨xa,xc⟩:=x)|(refine zAa xE cdn xP rfl (fun _=>?_)))|(refine zBe ?_;refine zAc (zAk rfl rfl q0) ?_)|(refine zBa ?_;first|refine zAc (zAg rfl rfl q2) ?_|refine zAc (zAg rfl rfl q1) ?_)|refine xst ?_|(refine xsa ?_;intro _)|(refine xsb ?_ ?_ <;>intro _<;>try (exfalso;omega))|refine xsc ?_|fail)
 all_goals (exact xdn ⟨(M2,a2,b2),fun y hy=>gM y (hM y hy),hT2⟩)
set_option maxRecDepth 100000 in
theorem scommitKA_ct (hE8:ErrsOn L8 W F) (e17:W.cell? ⟨4,0,none⟩=some (errV F 17)) (hN:NibAt W) (h1:64≤n) (h2:n≤65536) (v used:Nat) (hv:1≤v∧v≤1099511627776) (hD:Still D) (hn:D.n=n)
 (hT:TbOk N a r) (A:SP) (oa:Option Addr) (oc:Nat) (ops:List BOp) (hL:Lv W opC 3 A oa ops) (ho:ops.length*40≤140737488355328) (hne:zAr ops≠[]) (hl:r.length+ops.length≤144115188075855872)
 (rec_:List UInt8) (henc:encode (zAr ops)=(rec_,0)) (hrec:(zAx (zAr ops)).length+64≤140737488355328) (hsz:rec_.length≤1048576) (hlg:(rec_.length:Int)≤zBi (logN n:Nat)) (hfit:used+(pcsJ rec_).length≤logN n) (hroom:(zAj (zAu r (zAr ops))).length≤234*layA n) (p1:(apGo (zAt n:Nat) v used (pcsJ rec_) 0 D).1=false) :
 Ct Tryz.prog W 25 [.pointer (some ⟨s,0,none⟩),.slice oa ops.length oc] [A,stP s d q n (v:Nat) (some ⟨g,0,none⟩) D.life false,DiskP d D,tbP q a b,arP N,jouU g d n v used D.life]
  (fun _:{M:List Nd//∀ y ∈ N,y ∈ M}=>errV F 12)
  (fun x=>[A,stP s d q n (v:Nat) (some ⟨g,0,none⟩) D.life true,DiskP d (apGo (zAt n:Nat) v used (pcsJ rec_) 0 D).2,tbP q a b,arP x.1]):=by
 have e12:W.cell? ⟨2,0,none⟩=some (errV F 12):=hE8.at_ 12 (by decide)
 have n12:=errNe (F:=F) (e:=12) (by omega)
 obtain ⟨f1,f2,f3,f4⟩:=zBn h1 v
 have hA:=layA_le h2
 have hdn:zCg D D.life false=false:=by unfold zCg;rw [hD.on];simp
 have hpl:=pcsJ_length rec_
 have cdn:=sup_ct (W:=W) (s:=s) (d:=d) (q:=q) (n:=n) (v:Nat) (some ⟨g,0,none⟩) D.life hdn
 have cno:=bnormal_ct (W:=W) A oa oc ops hL ho
 have hnl:(zAr ops).length≤ops.length:=nrm_len ops
 obtain ⟨os,hos⟩:∃ os,os=zAr ops:=⟨_,rfl⟩
 rw [← hos] at cno hnl hne henc hrec hroom
 have hown:∀ xa xc,Lv W opC 3 (lsP opC 73 3 (.slice xa os.length xc) os) xa os:=fun xa xc=>Lv.own enc_op rfl
 have cen:=fun xa xc=>bencode_ct (W:=W) (F:=F) _ xa xc os (hown xa xc) hrec (by omega) (fun h=>by rw [henc] at h;cases h) (fun h=>by rw [henc] at h;cases h)
 rw [henc] at cen
 have clg:=slargest_ct (W:=W) (s:=s) (d:=d) (q:=q) (n:=n) (v:Nat) (some ⟨g,0,none⟩) D.life false h2
 have cro:=sroom_ct (W:=W) (s:=s) (d:=d) (q:=q) (n:=n) (v:Nat) (some ⟨g,0,none⟩) D.life false h2
 have caf:=fun xa xc=>safter_ct (W:=W) (s:=s) (d:=d) (q:=q) (n:=n) (b:=b) (v:Nat) (some ⟨g,0,none⟩) D.life false hT _ xa xc os (hown xa xc) (by omega) (by omega)
 have cfi:=fits_ct (W:=W) (p:=d) (g:=g) (zAt n:Nat) (logN n:Nat) (v:Nat) (used:Nat) D.life false rec_.length (by omega) ⟨by omega,by omega⟩ ⟨by omega,by omega⟩
 rw [show decide (0≤(rec_.length:Int)∧costI rec_.length≤(logN n:Nat)-(used:Nat))=true from decide_eq_true ⟨by omega,by omega⟩] at cfi
 have cap:=append_ct (W:=W) (p:=d) (g:=g) (D:=D) hE8 e17 hN (zAt n:Nat) (logN n:Nat) D.life v used rec_ (by omega) hdn ⟨by omega,by omega⟩ (by omega) hsz (by omega) ⟨by omega,by omega⟩ hv (by rw [hD.und];simp)
 rw [p1] at cap
 rw [if_neg (by simp:¬ (false=true)),if_neg (by simp:¬ (false=true))] at cap
 obtain ⟨D1,hD1⟩:∃ D1,D1=(apGo (zAt n:Nat) v used (pcsJ rec_) 0 D).2:=⟨_,rfl⟩
 rw [← hD1] at cap ⊢
 have q0:decide (((os.length:Nat):Int)=0)=false:=decide_eq_false (by
  have:=List.length_pos_iff.2 hne
  omega)
 have q1:decide (zBi (logN n:Nat)<(rec_.length:Nat))=false:=decide_eq_false (by omega)
 have q2:decide (((234*layA n:Nat):Int)<((zAj (zAu r os)).length:Nat))=false:=decide_eq_false (by omega)
 clear hD1
 refine Ct.enter Tryz.func25 rfl Tryz.ntmps25 (by simp) (fun R=>?_)
 repeat' (first|(refine zAd ?_;first|(refine zAa xE cap xP rfl (fun _=>?_))|(refine zAa xE cfi xP rfl (fun _=>?_))|(refine zAa xE cro xP rfl (fun _=>?_))|(refine zAa xE (caf _ _) xP rfl (fun M=>?_);obtain ⟨M,hM⟩:=M;dsimp only at hM ⊢)|(refine zAa xE clg xP rfl (fun _=>?_))|(refine zAa xE (cen _ _) xP rfl (fun _=>?_))|(refine zAa xE cno xP rfl (fun x=>?_);obtain ⟨xa,xc⟩:=x)|(refine zAa xE cdn xP rfl (fun _=>?_)))|(refine zAh ?_;refine zAc (zAp rfl e12) ?_)|(refine zBe ?_;refine zAc (zAk rfl rfl q0) ?_)|(refine zBh ?_;refine zAc (Ev_neqNil rfl n12) ?_)|(refine zBa ?_;first|refine zAc (zAg rfl rfl q2) ?_|refine zAc (zAg rfl rfl q1) ?_)|refine xst ?_|(refine xsa ?_;intro _)|(refine xsb ?_ ?_ <;>intro _<;>try (exfalso;omega))|refine xsc ?_|fail)
 all_goals (exact xdn ⟨M,hM⟩)
set_option maxRecDepth 100000 in
theorem scommitKF_ct (hE8:ErrsOn L8 W F) (e17:W.cell? ⟨4,0,none⟩=some (errV F 17)) (hN:NibAt W) (h1:64≤n) (h2:n≤65536) (v used:Nat) (hv:1≤v∧v≤1099511627776) (hD:Still D) (hn:D.n=n)
 (hT:TbOk N a r) (A:SP) (oa:Option Addr) (oc:Nat) (ops:List BOp) (hL:Lv W opC 3 A oa ops) (ho:ops.length*40≤140737488355328) (hne:zAr ops≠[]) (hl:r.length+ops.length≤144115188075855872)
 (rec_:List UInt8) (henc:encode (zAr ops)=(rec_,0)) (hrec:(zAx (zAr ops)).length+64≤140737488355328) (hsz:rec_.length≤1048576) (hlg:(rec_.length:Int)≤zBi (logN n:Nat)) (hfit:used+(pcsJ rec_).length≤logN n) (hroom:(zAj (zAu r (zAr ops))).length≤234*layA n) (p1:(apGo (zAt n:Nat) v used (pcsJ rec_) 0 D).1=true) (p2:(apGo (zAt n:Nat) v used (pcsJ rec_) 0 D).2.off=false) (p3:(apGo (zAt n:Nat) v used (pcsJ rec_) 0 D).2.life=D.life) (p4:(apGo (zAt n:Nat) v used (pcsJ rec_) 0 D).2.und.length<1073741823) (p6:(apGo (zAt n:Nat) v used (pcsJ rec_) 0 D).2.flushE=12) :
 Ct Tryz.prog W 25 [.pointer (some ⟨s,0,none⟩),.slice oa ops.length oc] [A,stP s d q n (v:Nat) (some ⟨g,0,none⟩) D.life false,DiskP d D,tbP q a b,arP N,jouU g d n v used D.life]
  (fun _:{M:List Nd//∀ y ∈ N,y ∈ M}=>errV F 12)
  (fun x=>[A,stP s d q n (v:Nat) (some ⟨g,0,none⟩) D.life true,DiskP d (apGo (zAt n:Nat) v used (pcsJ rec_) 0 D).2.flushD,tbP q a b,arP x.1]):=by
 have e12:W.cell? ⟨2,0,none⟩=some (errV F 12):=hE8.at_ 12 (by decide)
 have n12:=errNe (F:=F) (e:=12) (by omega)
 obtain ⟨f1,f2,f3,f4⟩:=zBn h1 v
 have hA:=layA_le h2
 have hdn:zCg D D.life false=false:=by unfold zCg;rw [hD.on];simp
 have hpl:=pcsJ_length rec_
 have cdn:=sup_ct (W:=W) (s:=s) (d:=d) (q:=q) (n:=n) (v:Nat) (some ⟨g,0,none⟩) D.life hdn
 have cno:=bnormal_ct (W:=W) A oa oc ops hL ho
 have hnl:(zAr ops).length≤ops.length:=nrm_len ops
 obtain ⟨os,hos⟩:∃ os,os=zAr ops:=⟨_,rfl⟩
 rw [← hos] at cno hnl hne henc hrec hroom
 have hown:∀ xa xc,Lv W opC 3 (lsP opC 73 3 (.slice xa os.length xc) os) xa os:=fun xa xc=>Lv.own enc_op rfl
 have cen:=fun xa xc=>bencode_ct (W:=W) (F:=F) _ xa xc os (hown xa xc) hrec (by omega) (fun h=>by rw [henc] at h;cases h) (fun h=>by rw [henc] at h;cases h)
 rw [henc] at cen
 have clg:=slargest_ct (W:=W) (s:=s) (d:=d) (q:=q) (n:=n) (v:Nat) (some ⟨g,0,none⟩) D.life false h2
 have cro:=sroom_ct (W:=W) (s:=s) (d:=d) (q:=q) (n:=n) (v:Nat) (some ⟨g,0,none⟩) D.life false h2
 have caf:=fun xa xc=>safter_ct (W:=W) (s:=s) (d:=d) (q:=q) (n:=n) (b:=b) (v:Nat) (some ⟨g,0,none⟩) D.life false hT _ xa xc os (hown xa xc) (by omega) (by omega)
 have cfi:=fits_ct (W:=W) (p:=d) (g:=g) (zAt n:Nat) (logN n:Nat) (v:Nat) (used:Nat) D.life false rec_.length (by omega) ⟨by omega,by omega⟩ ⟨by omega,by omega⟩
 rw [show decide (0≤(rec_.length:Int)∧costI rec_.length≤(logN n:Nat)-(used:Nat))=true from decide_eq_true ⟨by omega,by omega⟩] at cfi
 have cap:=append_ct (W:=W) (p:=d) (g:=g) (D:=D) hE8 e17 hN (zAt n:Nat) (logN n:Nat) D.life v used rec_ (by omega) hdn ⟨by omega,by omega⟩ (by omega) hsz (by omega) ⟨by omega,by omega⟩ hv (by rw [hD.und];simp)
 rw [p1] at cap
 have hu2:(used:Int)+costI rec_.length=((used+(pcsJ rec_).length:Nat):Int):=by omega
 simp only [if_true,Bool.not_true,hu2] at cap
 have csy:=sync_ct (W:=W) (p:=d) (g:=g) (D:=(apGo (zAt n:Nat) v used (pcsJ rec_) 0 D).2) hE8 (zAt n:Nat) (logN n:Nat) (v:Nat) ((used+(pcsJ rec_).length:Nat):Int) D.life (by unfold zCg;rw [p2,p3];simp) (by omega)
 rw [p6] at csy
 rw [if_neg (by omega:¬ (12:Nat)=0)] at csy
 obtain ⟨D1,hD1⟩:∃ D1,D1=(apGo (zAt n:Nat) v used (pcsJ rec_) 0 D).2:=⟨_,rfl⟩
 rw [← hD1] at cap csy ⊢
 obtain ⟨u2,hu2'⟩:∃ u,u=used+(pcsJ rec_).length:=⟨_,rfl⟩
 rw [← hu2'] at cap csy
 have q0:decide (((os.length:Nat):Int)=0)=false:=decide_eq_false (by
  have:=List.length_pos_iff.2 hne
  omega)
 have q1:decide (zBi (logN n:Nat)<(rec_.length:Nat))=false:=decide_eq_false (by omega)
 have q2:decide (((234*layA n:Nat):Int)<((zAj (zAu r os)).length:Nat))=false:=decide_eq_false (by omega)
 clear hD1 hu2' hu2
 refine Ct.enter Tryz.func25 rfl Tryz.ntmps25 (by simp) (fun R=>?_)
 repeat' (first|(refine zAd ?_;first|(refine zAa xE csy xP rfl (fun _=>?_))|(refine zAa xE cap xP rfl (fun _=>?_))|(refine zAa xE cfi xP rfl (fun _=>?_))|(refine zAa xE cro xP rfl (fun _=>?_))|(refine zAa xE (caf _ _) xP rfl (fun M=>?_);obtain ⟨M,hM⟩:=M;dsimp only at hM ⊢)|(refine zAa xE clg xP rfl (fun _=>?_))|(refine zAa xE (cen _ _) xP rfl (fun _=>?_))|(refine zAa xE cno xP rfl (fun x=>?_);obtain ⟨xa,xc⟩:=x)|(refine zAa xE cdn xP rfl (fun _=>?_)))|(refine zAh ?_;refine zAc (zAp rfl e12) ?_)|(refine zBe ?_;refine zAc (zAk rfl rfl q0) ?_)|(refine zBh ?_;refine zAc (Ev_neqNil rfl n12) ?_)|(refine zBa ?_;first|refine zAc (zAg rfl rfl q2) ?_|refine zAc (zAg rfl rfl q1) ?_)|refine xst ?_|(refine xsa ?_;intro _)|(refine xsb ?_ ?_ <;>intro _<;>try (exfalso;omega))|refine xsc ?_|fail)
 all_goals (exact xdn ⟨M,hM⟩)
end
end Go.Proofs.YtnkhohfbijkohaaGreatDoor
namespace Go.Proofs.YtnkhohfbijkohaaGreatDoor
open Go Go.RowKit
section
variable {P:Program} {W:World} {n:Nat} {E:Env} {H R:List SP}
theorem KJ.liftDone2R {f1 f2:FuncId} [FnIs P f1] [FnIs P f2] {cap1 a1 cap2 a2:Array Value} {v1 v2:List Value} {H1 H1' H2 R1 R2:List SP} (hv1:a1++cap1=v1.toArray) (hv2:a2++cap2=v2.toArray) (c1:CtD P W f1 v1 .returning H1 (fun _:Unit=>H1')) (c2:CtD P W f2 v2 .returning H2 (fun _:Unit=>H2)) (hp1:Pick H1 H R1) (hp2:Pick H2 H R2)
 {X:Type} {r:X→Value} {Hp:X→List SP} {fn:Func} {rs:List ResultVar} {vs:List Value} {ex:Exit} (hex:ex=.ret∨ex=.normal) (hr:fn.results=rs.toArray) (hv:Rvs P E (H1'++R1) rs vs) (c:X) (hc:tupleV vs=r c) (hE:∀ g,zBg (H1'++R1) g→zBg (Hp c++R) g) :
 KJ W n (liftK (fun l=>⟨.fn (.func f2) cap2,a2⟩::⟨.fn (.func f1) cap1,a1⟩::l) (.ex (.top (bodyPostM Fence.wide 0 P fn (Post W r Hp R))) ex)) E H:=by
 refine KJ.liftTop fun a w p s=>?_
 have fin:=leaves_marks (W:=W) (P:=P) (fn:=fn) (tmps:=a.tmps) (R:=R) c hc hE (fun w s=>hv.results_run hr p s) a.defers
 have st1:∀ w,St W (H++dm a.defers) w→LeavesInM Fence.wide 0 P fn a.tmps (Post W r Hp R) (⟨.fn (.func f1) cap1,a1⟩::a.defers) .returning w:=fun w s=>
  leaves_fn c1 (by simp) rfl (by rw [← hv1];exact inv_fn cap1 a1 w) ((s.perm (hp1.perm.append_right _)).perm (by rw [List.append_assoc])) (fun x w' s'=>fin w' (s'.perm (by rw [List.append_assoc])))
 have st2:LeavesInM Fence.wide 0 P fn a.tmps (Post W r Hp R) (⟨.fn (.func f2) cap2,a2⟩::⟨.fn (.func f1) cap1,a1⟩::a.defers) .returning w:=
  leaves_fn c2 (by simp) rfl (by rw [← hv2];exact inv_fn cap2 a2 w) ((s.perm (hp2.perm.append_right _)).perm (by rw [List.append_assoc])) (fun x w' s'=>st1 w' (s'.perm ((show (H2++(R2++dm a.defers)).Perm ((H2++R2)++dm a.defers) by rw [List.append_assoc]).trans (hp2.perm.symm.append_right _))))
 rcases hex with rfl|rfl
 ·exact st2
 ·exact st2
end
section
variable {W:World} {F:Nat→Addr} {q s d n g:Nat} {D:Dsk} {r:Rows}
theorem open1_errD (ge gs x e:Nat) (he:e≠0):CtD Tryz.prog W 102 [.pointer (some ⟨ge,0,none⟩),.pointer (some ⟨gs,0,none⟩)] .returning [zAq ge [errV F e] 26,zAq gs [.pointer (some ⟨x,0,none⟩)] 38] (fun _:Unit=>[zAq ge [errV F e] 26,zAq gs [.pointer none] 38]):=by
 have hne:=errNe (F:=F) he
 refine CtD.enter Tryz.func102 rfl Tryz.ntmps102 (by simp) (fun R c₀ cs hu=>?_)
 refine KS_rest ?_
 repeat' (first|(refine KJ.liftStp (by constructor) ?_)|(refine KJ.liftCondT rfl ?_)|(refine KJ.liftCondF rfl ?_)|(refine KJ.liftOper ?_)|(refine zBh ?_;refine zAc (Ev_neqNil rfl hne) ?_)|refine xst ?_|(refine xsa ?_;intro _)|(refine xsb ?_ ?_ <;>intro _<;>try (exfalso;omega))|refine xsc ?_|fail)
 all_goals exact KJ_doneD () hu (by first|exact Or.inl rfl|exact Or.inr rfl) rfl (xN)
set_option maxRecDepth 100000 in
theorem sopenC_ct (hE:ErrsOn L16 W F) (hE8:ErrsOn L8 W F) (hN:NibAt W) (h1:64≤n) (h2:n≤65536) (hr:RisR r) (hsn:(zAj r).length≤234*layA n) (v:Nat) (hv:1≤v∧v+1≤1099511627776) (hR:Still D) (hn:D.n=n) (hG:slotE D 0=0∧slotN D 0=v∧slotS D 0=hdrB n (zAj r).length∧areaR D (zBj n v) (layA n) v (zAj r).length=(zAj r,0))
 (recs:List (List UInt8)) (g0:rpGo D (zAt n:Nat) (logN n:Nat) v ((((logN n:Nat):Int).toNat)+1) 0 []=recs) (hdec:∀ x ∈ recs,(decode x).2=0∧x.length≤4398046511104) (hrl2:∀ i x,recs[i]? = some x→(lgR r recs i).length+(decode x).1.length≤144115188075855872) (hcn:recs.length≤4611686018427387904) {D2:Dsk} (rr:Rows) (hrr:lgR r recs recs.length=rr) (hfin:(zAj rr).length≤234*layA n)
 (hfo:∀ (s q:Nat) (N:List Nd) (a:Option Addr) (b:Int),TbOk N a rr→Ct Tryz.prog W 50 [.pointer (some ⟨s,0,none⟩)] [stP s d q n (v:Nat) none D.life false,DiskP d D,tbP q a b,arP N] (fun _:Unit=>errV F 12) (fun _=>[DiskP d D2])) :
 Ct Tryz.prog W 37 [.pointer (some ⟨d,0,none⟩)] [DiskP d D] (fun _:Unit=>.tuple #[.pointer none,errV F 12]) (fun _=>[DiskP d D2]):=by
 have hA:=layA_le (n:=n) (by omega)
 obtain ⟨f1,f2,f3,f4⟩:=zBn h1 0
 have ho:=hR.on
 have hu:=hR.und
 have csz:Ct Tryz.prog W 43 [.pointer (some ⟨d,0,none⟩)] [DiskP d D] (fun _:Unit=>.int .i64 (n:Nat)) (fun _=>[DiskP d D]):=by
  have:=size_ct (W:=W) (p:=d) (D:=D)
  rw [hn] at this
  exact this
 have cof:Ct Tryz.prog W 44 [.pointer (some ⟨d,0,none⟩)] [DiskP d D] (fun _:Unit=>.bool false) (fun _=>[DiskP d D]):=by
  have:=off_ct (W:=W) (p:=d) (D:=D)
  rw [ho] at this
  exact this
 have cov:=over_ct (W:=W) (d:=d) (D:=D) h1 (by omega) hn
 have clo:=fun s q=>sloadL_ct (W:=W) (s:=s) (d:=d) (q:=q) (D:=D) hE hE8 hN h1 h2 hr hsn v ⟨hv.1,by omega⟩ D.life hn ho hG recs g0 hdec hrl2 hcn (by rw [hrr];exact hfin)
 rw [hrr] at clo
 have cfo:=hfo
 have q1:decide ((n:Int)<64)=false:=decide_eq_false (by omega)
 clear hG hfo
 refine Ct.enter Tryz.func37 rfl Tryz.ntmps37 (by simp) (fun R=>?_)
 refine KJ.lift0 ?_
 repeat' (first|(refine KJ.liftDeferF rfl (Evs.cons (v:=.pointer (some ⟨_,0,none⟩)) rfl Evs.nil) ?_)|(refine KJ.liftDeferV rfl rfl xE ?_)|(refine KJ.liftStp (by constructor) ?_)|(refine KJ.liftCondT rfl ?_)|(refine KJ.liftCondF rfl ?_)|(refine KJ.liftOper ?_)|(refine zBf ?_;first|(refine zBb (d:=3) rfl (fun ge=>?_))|(refine zBb (d:=2) rfl (fun gs=>?_)))|(refine zAd ?_;first|(refine zAa xE (cfo _ _ _ _ _ hT) xP rfl (fun _=>?_))|(refine zAa xE (clo _ _) xP rfl (fun y=>?_);obtain ⟨q',⟨⟨N,a,b⟩,gN,hT⟩⟩:=y;dsimp only at gN hT ⊢)|(refine zAa xE cov xP rfl (fun x=>?_);obtain ⟨s,q⟩:=x)|(refine zAa xE cof xP rfl (fun _=>?_))|(refine zAa xE csz xP rfl (fun _=>?_)))|(refine ek_mkFunc ?_;refine zAc (Ev_mkFunc2 rfl rfl) ?_)|(refine zAs ?_;refine zAc (zAe rfl rfl q1) ?_)|refine xst ?_|(refine xsa ?_;intro _)|(refine xsb ?_ ?_ <;>intro _<;>try (exfalso;omega))|refine xsc ?_|(refine zAb (id:=2) plTGM3 (by kernel_rfl) (by kernel_rfl) ?_)|(refine KJ.liftDraws (id:=2) plTGM3 (by kernel_rfl) (by kernel_rfl) ?_)|(refine zAb (id:=4) plTGM3 (by kernel_rfl) (by kernel_rfl) ?_)|(refine KJ.liftDraws (id:=4) plTGM3 (by kernel_rfl) (by kernel_rfl) ?_)|(refine zAb (id:=9) plTGM4 (by kernel_rfl) (by kernel_rfl) ?_)|(refine KJ.liftDraws (id:=9) plTGM4 (by kernel_rfl) (by kernel_rfl) ?_)|refine zAn ?_ ?_|refine zAm rfl rfl rfl rfl rfl ?_ ?_|refine zAf ?_ ?_|exact Rech.nil|fail)
 all_goals exact KJ.liftDone2R (v1:=[.pointer (some ⟨ge,0,none⟩),.pointer (some ⟨gs,0,none⟩)]) (v2:=[.pointer (some ⟨ge,0,none⟩)]) rfl rfl (open1_errD ge gs s 12 (by omega)) (caught_ct ge) xP xP (.inl rfl) rfl (Rvs.cell rfl inferInstance xS rfl (Rvs.cell rfl inferInstance xS rfl Rvs.nil)) () (by rfl) (xN)
set_option maxRecDepth 100000 in
theorem sopenS_ct (hE:ErrsOn L16 W F) (hE8:ErrsOn L8 W F) (hN:NibAt W) (h1:64≤n) (h2:n≤65536) (hr:RisR r) (hsn:(zAj r).length≤234*layA n) (v:Nat) (hv:1≤v∧v+1≤1099511627776) (hR:Still D) (hn:D.n=n) (hG:slotE D 0=0∧slotN D 0=v∧slotS D 0=hdrB n (zAj r).length∧areaR D (zBj n v) (layA n) v (zAj r).length=(zAj r,0))
 (recs:List (List UInt8)) (g0:rpGo D (zAt n:Nat) (logN n:Nat) v ((((logN n:Nat):Int).toNat)+1) 0 []=recs) (hdec:∀ x ∈ recs,(decode x).2=0∧x.length≤4398046511104) (hrl2:∀ i x,recs[i]? = some x→(lgR r recs i).length+(decode x).1.length≤144115188075855872) (hcn:recs.length≤4611686018427387904) {D2:Dsk} (rr:Rows) (hrr:lgR r recs recs.length=rr) (hfin:(zAj rr).length≤234*layA n)
 (hfo:∀ (s q:Nat) (N:List Nd) (a:Option Addr) (b:Int),TbOk N a rr→Ct Tryz.prog W 50 [.pointer (some ⟨s,0,none⟩)] [stP s d q n (v:Nat) none D.life false,DiskP d D,tbP q a b,arP N] (fun _:Nat=>.nilIface) (fun g=>[stP s d q n ((v+1:Nat):Int) (some ⟨g,0,none⟩) D.life false,DiskP d D2,tbP q a b,arP N,jouP g d n (v+1) D2.life])) :
 Ct Tryz.prog W 37 [.pointer (some ⟨d,0,none⟩)] [DiskP d D] (fun x:Nat × (Nat × TbQ [] rr) × Nat=>.tuple #[.pointer (some ⟨x.1,0,none⟩),.nilIface])
  (fun x=>[stP x.1 d x.2.1.1 n ((v+1:Nat):Int) (some ⟨x.2.2,0,none⟩) D.life false,DiskP d (D2),tbP x.2.1.1 x.2.1.2.1.2.1 x.2.1.2.1.2.2,arP x.2.1.2.1.1,jouP x.2.2 d n (v+1) D2.life]):=by
 have hA:=layA_le (n:=n) (by omega)
 obtain ⟨f1,f2,f3,f4⟩:=zBn h1 0
 have ho:=hR.on
 have hu:=hR.und
 have csz:Ct Tryz.prog W 43 [.pointer (some ⟨d,0,none⟩)] [DiskP d D] (fun _:Unit=>.int .i64 (n:Nat)) (fun _=>[DiskP d D]):=by
  have:=size_ct (W:=W) (p:=d) (D:=D)
  rw [hn] at this
  exact this
 have cof:Ct Tryz.prog W 44 [.pointer (some ⟨d,0,none⟩)] [DiskP d D] (fun _:Unit=>.bool false) (fun _=>[DiskP d D]):=by
  have:=off_ct (W:=W) (p:=d) (D:=D)
  rw [ho] at this
  exact this
 have cov:=over_ct (W:=W) (d:=d) (D:=D) h1 (by omega) hn
 have clo:=fun s q=>sloadL_ct (W:=W) (s:=s) (d:=d) (q:=q) (D:=D) hE hE8 hN h1 h2 hr hsn v ⟨hv.1,by omega⟩ D.life hn ho hG recs g0 hdec hrl2 hcn (by rw [hrr];exact hfin)
 rw [hrr] at clo
 have cfo:=hfo
 have q1:decide ((n:Int)<64)=false:=decide_eq_false (by omega)
 clear hG hfo
 refine Ct.enter Tryz.func37 rfl Tryz.ntmps37 (by simp) (fun R=>?_)
 refine KJ.lift0 ?_
 repeat' (first|(refine KJ.liftDeferF rfl (Evs.cons (v:=.pointer (some ⟨_,0,none⟩)) rfl Evs.nil) ?_)|(refine KJ.liftDeferV rfl rfl xE ?_)|(refine KJ.liftStp (by constructor) ?_)|(refine KJ.liftCondT rfl ?_)|(refine KJ.liftCondF rfl ?_)|(refine KJ.liftOper ?_)|(refine zBf ?_;first|(refine zBb (d:=3) rfl (fun ge=>?_))|(refine zBb (d:=2) rfl (fun gs=>?_)))|(refine zAd ?_;first|(refine zAa xE (cfo _ _ _ _ _ hT) xP rfl (fun gj=>?_))|(refine zAa xE (clo _ _) xP rfl (fun y=>?_);obtain ⟨q',⟨⟨N,a,b⟩,gN,hT⟩⟩:=y;dsimp only at gN hT ⊢)|(refine zAa xE cov xP rfl (fun x=>?_);obtain ⟨s,q⟩:=x)|(refine zAa xE cof xP rfl (fun _=>?_))|(refine zAa xE csz xP rfl (fun _=>?_)))|(refine ek_mkFunc ?_;refine zAc (Ev_mkFunc2 rfl rfl) ?_)|(refine zAs ?_;refine zAc (zAe rfl rfl q1) ?_)|refine xst ?_|(refine xsa ?_;intro _)|(refine xsb ?_ ?_ <;>intro _<;>try (exfalso;omega))|refine xsc ?_|(refine zAb (id:=2) plTGM3 (by kernel_rfl) (by kernel_rfl) ?_)|(refine KJ.liftDraws (id:=2) plTGM3 (by kernel_rfl) (by kernel_rfl) ?_)|(refine zAb (id:=4) plTGM3 (by kernel_rfl) (by kernel_rfl) ?_)|(refine KJ.liftDraws (id:=4) plTGM3 (by kernel_rfl) (by kernel_rfl) ?_)|(refine zAb (id:=9) plTGM4 (by kernel_rfl) (by kernel_rfl) ?_)|(refine KJ.liftDraws (id:=9) plTGM4 (by kernel_rfl) (by kernel_rfl) ?_)|refine zAn ?_ ?_|refine zAm rfl rfl rfl rfl rfl ?_ ?_|refine zAf ?_ ?_|exact Rech.nil|fail)
 all_goals exact KJ.liftDone2 (v1:=[.pointer (some ⟨ge,0,none⟩),.pointer (some ⟨gs,0,none⟩)]) (v2:=[.pointer (some ⟨ge,0,none⟩)]) rfl rfl (open1_ct ge gs) (caught_ct ge) xP xP (.inl rfl) rfl (Rvs.cell rfl inferInstance xS rfl (Rvs.cell rfl inferInstance xS rfl Rvs.nil)) (s,(q',⟨(N,a,b),gN,hT⟩),gj) (by rfl) (xN)
end
end Go.Proofs.YtnkhohfbijkohaaGreatDoor
namespace Go.Proofs.YtnkhohfbijkohaaGreatDoor
open Go Go.RowKit
theorem still_area_read {D:Dsk} (hr:Still D) (a n s:Nat) (v:List UInt8) (ha:a+n≤D.n) (hs:1≤s) (hv:v.length≤234*n) (_hn:n≤65536) (hk:∀ k,234*k<v.length→D.sec (a+k)=zAw s ((v.drop (234*k)).take 234)) :
 areaR D a n s v.length=(v,0):=by
 have hm:D.mayB a n=true:=by unfold Dsk.mayB;exact decide_eq_true (by omega)
 have hroom:roomI n=234*n:=by unfold roomI;omega
 have hns:nsec v.length≤n:=by unfold nsec;omega
 have hA:areaR D a n s v.length=arGo D a s v.length (nsec v.length) 0 []:=by
  unfold areaR
  rw [if_neg (by rw [hm];simp),if_neg (by omega),if_neg (by omega),if_neg (by omega),if_neg (by rw [hr.on];simp)]
  have:(sectorsI v.length).toNat=nsec v.length:=by unfold sectorsI nsec;split <;> omega
  rw [this]
 rw [hA]
 exact ar_back hr.on hr.und a s (by omega) (nsec v.length) 0 v [] v.length rfl (by omega) (fun _=>by omega) hk
structure RcOk (rc:List UInt8):Prop where
 dec:(decode rc).2=0
 len:rc.length≤14040
 few:(decode rc).1.length≤14040
structure Comes (n:Nat) (r0:Rows) (recs:List (List UInt8)) (r:Rows):Prop where
 ris0:RisR r0
 room0:(zAj r0).length≤234*layA n
 ok:∀ x ∈ recs,RcOk x
 few:recs.length≤100
 is_:lgR r0 recs recs.length=r
 ris:RisR r
 room:(zAj r).length≤234*layA n
theorem Comes.nil {n:Nat} {r:Rows} (h:RisR r) (hr:(zAj r).length≤234*layA n):Comes n r [] r:=⟨h,hr,fun _ hx=>(by cases hx),Nat.zero_le _,rfl,h,hr⟩
theorem lgR_len (r0:Rows) (recs:List (List UInt8)) (h:∀ x ∈ recs,RcOk x):∀ i,i≤recs.length→(lgR r0 recs i).length≤r0.length+i*14040:=by
 intro i
 induction i with
 |zero=>intro _;show r0.length≤_;omega
 |succ i ih=>
  intro hi
  obtain ⟨x,hx⟩:∃ x,recs[i]? = some x:=⟨_,List.getElem?_eq_getElem (by omega)⟩
  have h1:=applyB_len (decode x).1 (lgR r0 recs i)
  have h2:=(h x (List.mem_of_getElem? hx)).few
  have h3:=ih (by omega)
  rw [lgR_next r0 hx,Nat.succ_mul]
  omega
def OpA (n m:Nat) (r:Rows) (D:Dsk):Prop:=∃ r0 recs v,RdO n r0 recs v D∧(1≤v∧v≤m)∧Comes n r0 recs r
structure StA (n m:Nat) (r:Rows) (x:StH):Prop where
 wk:∃ r0 recs,WkO n r0 recs x.v x.D∧x.used=(recs.flatMap pcsJ).length∧Comes n r0 recs r
 v1:1≤x.v
 vm:x.v≤m
 tab:TbOk x.N x.a r
section
variable {W:World} {F:Nat→Addr} {d n:Nat} {D:Dsk} {r:Rows}
theorem sopenA (hE:ErrsOn L16 W F) (hE8:ErrsOn L8 W F) (hN:NibAt W) (h1:64≤n) (h2:n≤176) {m:Nat} (hm:m+1≤1099511627776) (hO:OpA n m r D) :
 (∃ D2:Dsk,(¬ Calm D∧D2.off=true∧D2.ok∧D2.n=n∧D2.und.length≤65536∧∀ kept torn bytes,OpA n (m+1) r (D2.crash kept torn bytes))∧
  Ct Tryz.prog W 37 [.pointer (some ⟨d,0,none⟩)] [DiskP d D] (fun _:Unit=>.tuple #[.pointer none,errV F 12]) (fun _=>[DiskP d D2]))∨
 Ct Tryz.prog W 37 [.pointer (some ⟨d,0,none⟩)] [DiskP d D] (fun y:Nat × {x:StH//StA n (m+1) r x∧x.d=d}=>.tuple #[.pointer (some ⟨y.1,0,none⟩),.nilIface]) (fun y=>stL y.1 n y.2.1):=by
 obtain ⟨r0,recs,v,hR,⟨hv1,hvm⟩,hC⟩:=hO
 obtain ⟨f1,f2,f3,f4⟩:=zBn h1 v
 have hlA:layA n≤65536:=by unfold layA;omega
 have hh:(hdrB n (zAj r0).length).length≤234:=Nat.le_trans (hdrB_len _ _) (by omega)
 have hst:=hR.still
 have hn:=hR.nn
 have hr0:=hC.room0
 have ht:=hst.told (a:=0) (by omega) (hR.holds ⟨hv1,by omega⟩ hh)
 rw [if_neg (by omega),if_neg (by omega)] at ht
 have hG:slotE D 0=0∧slotN D 0=v∧slotS D 0=hdrB n (zAj r0).length∧areaR D (zBj n v) (layA n) v (zAj r0).length=(zAj r0,0):=⟨ht.1,ht.2.1,ht.2.2,still_area_read hst _ _ _ _ (by omega) hv1 hr0 hlA hR.area⟩
 have hdec:∀ x ∈ recs,(decode x).2=0∧x.length≤4398046511104:=fun x hx=>⟨(hC.ok x hx).dec,by have:=(hC.ok x hx).len;omega⟩
 have hr0l:=(rows_room hr0 (by omega)).1
 have hfew:=hC.few
 have hrl2:∀ i x,recs[i]? = some x→(lgR r0 recs i).length+(decode x).1.length≤144115188075855872:=fun i x hx=>by
  have h3:=(List.getElem?_eq_some_iff.1 hx).1
  have h4:=lgR_len r0 recs hC.ok i (by omega)
  have h5:=(hC.ok x (List.mem_of_getElem? hx)).few
  have:i*14040≤100*14040:=Nat.mul_le_mul_right _ (by omega)
  omega
 have hroom:=hC.room
 obtain ⟨w1,w2,w3,w4,w5,w6⟩:=hR.fold h1 (by omega) ⟨hv1,by omega⟩ hr0 r hroom
 have hop:=fun kept torn bytes=>w6 kept torn bytes
 have hul:D.und.length+65536<1073741823:=by rw [hst.und];simp
 obtain ⟨a1,a2,a3,a4,a5⟩:=area_ways hst (zBj n (v+1)) (layA n) (v+1) (zAj r) (by have:=zBn h1 (v+1);omega) (by omega) hroom hlA
 have hh2:(hdrB n (zAj r).length).length≤234:=Nat.le_trans (hdrB_len _ _) (by omega)
 have hA:(areaW D (zBj n (v+1)) (layA n) ((v+1:Nat):Int) (zAj r)).2=fldA D n (v+1) r:=rfl
 have hD:zCh (fldA D n (v+1) r) ((0:Nat):Int) ((v+1:Nat):Int) (hdrB n (zAj r).length)=fldD D n (v+1) r:=rfl
 have gone:foldE D n v r=12→(∀ (s q:Nat) (N:List Nd) (a:Option Addr) (b:Int),TbOk N a r→Ct Tryz.prog W 50 [.pointer (some ⟨s,0,none⟩)] [stP s d q n (v:Nat) none D.life false,DiskP d D,tbP q a b,arP N] (fun _:Unit=>errV F 12) (fun _=>[DiskP d (foldW D n v r)]))→
  (foldW D n v r).off=true→¬ Calm D→∃ D2:Dsk,(¬ Calm D∧D2.off=true∧D2.ok∧D2.n=n∧D2.und.length≤65536∧∀ kept torn bytes,OpA n (m+1) r (D2.crash kept torn bytes))∧
  Ct Tryz.prog W 37 [.pointer (some ⟨d,0,none⟩)] [DiskP d D] (fun _:Unit=>.tuple #[.pointer none,errV F 12]) (fun _=>[DiskP d D2]):=by
  intro _ hfo hoff hnc
  refine ⟨foldW D n v r,⟨hnc,hoff,w3,w2,by omega,fun kept torn bytes=>?_⟩,?_⟩
  ·rcases hop kept torn bytes with h|⟨-,h⟩
   ·exact ⟨r,[],v+1,h,⟨by omega,by omega⟩,Comes.nil hC.ris hroom⟩
   ·exact ⟨r0,recs,v,h,⟨hv1,by omega⟩,hC⟩
  ·exact sopenC_ct (W:=W) (F:=F) (d:=d) (D:=D) hE hE8 hN h1 (by omega) hC.ris0 hr0 v ⟨hv1,by omega⟩ hst hn hG recs hR.rp hdec hrl2 (by omega) r hC.is_ hroom hfo
 rcases a1 with ⟨e0,s0,-,-⟩|⟨e0,o1,-⟩
 ·rw [hA] at s0 a2
  have eE:foldE D n v r=slotWE (fldA D n (v+1) r) 0 ((v+1:Nat):Int) (hdrB n (zAj r).length):=by unfold foldE;rw [if_neg (by rw [e0];simp)]
  have eW:foldW D n v r=fldD D n (v+1) r:=by unfold foldW;rw [if_neg (by rw [e0];simp)]
  obtain ⟨b1,b2,b3,b4,b5⟩:=slot_ways (D:=fldA D n (v+1) r) s0 0 (v+1) (hdrB n (zAj r).length) (by omega) (by omega) (by omega) hh2
  rw [hD] at b1 b2
  rcases b1 with ⟨g0,g1,-,-⟩|⟨g0,g1,-⟩
  ·right
   have g0:slotWE (fldA D n (v+1) r) 0 ((v+1:Nat):Int) (hdrB n (zAj r).length)=0:=g0
   rw [eE,eW,g0] at w1
   rw [eW] at w2 w3 w4
   have hw:RdO n r [] (v+1) (fldD D n (v+1) r)∧∀ j,j<logN n→getB (((fldD D n (v+1) r).sec (zAt n+j)).drop 248) 8<(zAz (v+1) j:Nat):=by
    rcases w1 with ⟨-,h⟩|⟨h,-⟩
    ·exact h
    ·cases h
   have hfo:∀ (s q:Nat) (N:List Nd) (a:Option Addr) (b:Int),TbOk N a r→Ct Tryz.prog W 50 [.pointer (some ⟨s,0,none⟩)] [stP s d q n (v:Nat) none D.life false,DiskP d D,tbP q a b,arP N] (fun _:Nat=>.nilIface) (fun g=>[stP s d q n ((v+1:Nat):Int) (some ⟨g,0,none⟩) D.life false,DiskP d (fldD D n (v+1) r),tbP q a b,arP N,jouP g d n (v+1) (fldD D n (v+1) r).life]):=fun s q N a b hT=>
    sfold_ct (W:=W) (F:=F) (N:=N) (a:=a) (r:=r) (q:=q) (s:=s) (d:=d) (b:=b) (D:=D) hE8 hN h1 (by omega) v (by omega) none D.life false hT hn hroom hul e0 s0.und (by rw [a2,hn]) g0 g1.on w2
   have hc:=sopenS_ct (W:=W) (F:=F) (d:=d) (D:=D) hE hE8 hN h1 (by omega) hC.ris0 hr0 v ⟨hv1,by omega⟩ hst hn hG recs hR.rp hdec hrl2 (by omega) r hC.is_ hroom hfo
   refine hc.to (fun x=>(x.1,⟨⟨d,x.2.1.1,x.2.2,v+1,0,fldD D n (v+1) r,x.2.1.2.1.1,x.2.1.2.1.2.1,x.2.1.2.1.2.2⟩,⟨⟨r,[],WkO.of hw.1 hw.2,rfl,Comes.nil hC.ris hroom⟩,by dsimp only;omega,by dsimp only;omega,x.2.1.2.2.2⟩,rfl⟩)) (fun _=>rfl) (fun x R g q=>?_)
   unfold stL
   dsimp only
   rw [w4]
   rw [w4] at q
   exact q
  ·left
   have g0:slotWE (fldA D n (v+1) r) 0 ((v+1:Nat):Int) (hdrB n (zAj r).length)=12:=g0
   have hnc:¬ Calm D:=fun hc=>by
    have hrest:Rest D:=⟨hc,hst.und,hst.ok⟩
    obtain ⟨-,r2,r3,-⟩:=rest_area hrest (zBj n (v+1)) (layA n) (v+1) (zAj r) (by have:=zBn h1 (v+1);omega) (by omega) hroom hlA
    rw [hA] at r2 r3
    have h9:=(rest_write r2 0 (v+1) (hdrB n (zAj r).length) (by omega) (by omega) (by omega) hh2).1
    have h9:slotWE (fldA D n (v+1) r) 0 ((v+1:Nat):Int) (hdrB n (zAj r).length)=0:=h9
    rw [g0] at h9
    cases h9
   refine gone (by rw [eE,g0]) (fun s q N a b hT=>?_) (by rw [eW];exact g1) hnc
   rw [eW]
   exact (sfoldS_ct (W:=W) (F:=F) (N:=N) (a:=a) (r:=r) (q:=q) (s:=s) (d:=d) (b:=b) (D:=D) hE8 hN h1 (by omega) v (by omega) none D.life false hT hn hroom hul e0 s0.und (by rw [a2,hn]) g0).to (fun _=>()) (fun _=>rfl) (fun _ R=>(xN))
 ·left
  have eE:foldE D n v r=12:=by unfold foldE;rw [if_pos (by rw [e0];simp),e0]
  have eW:foldW D n v r=fldA D n (v+1) r:=by unfold foldW;rw [if_pos (by rw [e0];simp)]
  have hnc:¬ Calm D:=fun hc=>by
   have hrest:Rest D:=⟨hc,hst.und,hst.ok⟩
   have h9:=(rest_area hrest (zBj n (v+1)) (layA n) (v+1) (zAj r) (by have:=zBn h1 (v+1);omega) (by omega) hroom hlA).1
   rw [e0] at h9
   cases h9
  refine gone eE (fun s q N a b hT=>?_) (by rw [eW];exact o1) hnc
  rw [eW]
  exact (sfoldA_ct (W:=W) (F:=F) (N:=N) (a:=a) (r:=r) (q:=q) (s:=s) (d:=d) (b:=b) (D:=D) hE8 hN h1 (by omega) v (by omega) none D.life false hT hn hroom hul e0).to (fun _=>()) (fun _=>rfl) (fun _ R=>(xN))
end
end Go.Proofs.YtnkhohfbijkohaaGreatDoor
namespace Go.Proofs.YtnkhohfbijkohaaGreatDoor
open Go Go.RowKit
section
variable {W:World} {F:Nat→Addr} {N:List Nd} {a:Option Addr} {r:Rows} {q s d n g:Nat} {b:Int} {D D2:Dsk}
set_option maxRecDepth 100000 in
theorem scommitWX_ct (hE8:ErrsOn L8 W F) (_e17:W.cell? ⟨4,0,none⟩=some (errV F 17)) (_hN:NibAt W) (h1:64≤n) (h2:n≤65536) (v used:Nat) (_hv:1≤v∧v+1≤1099511627776) (hD:Still D) (_hn:D.n=n) (hus:used≤logN n)
 (hT:TbOk N a r) (A:SP) (oa:Option Addr) (oc:Nat) (ops:List BOp) (hL:Lv W opC 3 A oa ops) (ho:ops.length≤100000000) (hne:zAr ops≠[]) (hl:r.length≤100000000)
 (rc:List UInt8) (hrc:rc=zAx (zAr ops)) (hsz:rc.length≤1048576) (hlg:(rc.length:Int)≤zBi (logN n:Nat)) (hfit:¬ (used+(pcsJ rc).length≤logN n)) (hroom:(zAj (zAu r (zAr ops))).length≤234*layA n)
 (hfo:∀ M,TbOk M a r→Ct Tryz.prog W 50 [.pointer (some ⟨s,0,none⟩)] [stP s d q n (v:Nat) (some ⟨g,0,none⟩) D.life false,DiskP d D,tbP q a b,arP M] (fun _:Unit=>errV F 12) (fun _=>[stP s d q n (v:Nat) (some ⟨g,0,none⟩) D.life true,DiskP d D2,tbP q a b,arP M]))  :
 Ct Tryz.prog W 25 [.pointer (some ⟨s,0,none⟩),.slice oa ops.length oc] [A,stP s d q n (v:Nat) (some ⟨g,0,none⟩) D.life false,DiskP d D,tbP q a b,arP N,jouU g d n v used D.life]
  (fun _:{M:List Nd//∀ y ∈ N,y ∈ M}=>errV F 12)
  (fun x=>[A,stP s d q n (v:Nat) (some ⟨g,0,none⟩) D.life true,DiskP d D2,tbP q a b,arP x.1]):=by
 have e12:W.cell? ⟨2,0,none⟩=some (errV F 12):=hE8.at_ 12 (by decide)
 have n12:=errNe (F:=F) (e:=12) (by omega)
 have hA:=layA_le h2
 obtain ⟨f1,f2,f3,f4⟩:=zBn h1 v
 have hlN:1≤logN n:=by unfold logN layA;omega
 have hdn:zCg D D.life false=false:=by unfold zCg;rw [hD.on];simp
 have hpl:=pcsJ_length rc
 have hcl:=cost_large hlN (by omega) hlg
 have cdn:=sup_ct (W:=W) (s:=s) (d:=d) (q:=q) (n:=n) (v:Nat) (some ⟨g,0,none⟩) D.life hdn
 have cno:=bnormal_ct (W:=W) A oa oc ops hL (by omega)
 have hnl:(zAr ops).length≤ops.length:=nrm_len ops
 have hen:=normD_enc ops
 obtain ⟨os,hos⟩:∃ os,os=zAr ops:=⟨_,rfl⟩
 rw [← hos] at cno hnl hne hen hrc hroom
 rw [← hrc] at hen
 have hown:∀ xa xc,Lv W opC 3 (lsP opC 73 3 (.slice xa os.length xc) os) xa os:=fun xa xc=>Lv.own enc_op rfl
 have cen:=fun xa xc=>bencode_ct (W:=W) (F:=F) _ xa xc os (hown xa xc) (by rw [← hrc];omega) (by omega) (fun h=>by rw [hen] at h;cases h) (fun h=>by rw [hen] at h;cases h)
 rw [hen] at cen
 have clg:=slargest_ct (W:=W) (s:=s) (d:=d) (q:=q) (n:=n) (v:Nat) (some ⟨g,0,none⟩) D.life false h2
 have cro:=sroom_ct (W:=W) (s:=s) (d:=d) (q:=q) (n:=n) (v:Nat) (some ⟨g,0,none⟩) D.life false h2
 have caf:=fun xa xc=>safter_ct (W:=W) (s:=s) (d:=d) (q:=q) (n:=n) (b:=b) (v:Nat) (some ⟨g,0,none⟩) D.life false hT _ xa xc os (hown xa xc) (by omega) (by omega)
 have cfi:=fits_ct (W:=W) (p:=d) (g:=g) (zAt n:Nat) (logN n:Nat) (v:Nat) (used:Nat) D.life false rc.length (by omega) ⟨by omega,by omega⟩ ⟨by omega,by omega⟩
 rw [show decide (0≤(rc.length:Int)∧costI rc.length≤(logN n:Nat)-(used:Nat))=false from decide_eq_false (by omega)] at cfi
 have q0:decide (((os.length:Nat):Int)=0)=false:=decide_eq_false (by
  have:=List.length_pos_iff.2 hne
  omega)
 have q1:decide (zBi (logN n:Nat)<(rc.length:Nat))=false:=decide_eq_false (by omega)
 have q2:decide (((234*layA n:Nat):Int)<((zAj (zAu r os)).length:Nat))=false:=decide_eq_false (by omega)
 refine Ct.enter Tryz.func25 rfl Tryz.ntmps25 (by simp) (fun R=>?_)
 repeat' (first|(refine zAd ?_;first|(refine zAa xE (hfo M (hT.mono hM)) xP rfl (fun _=>?_))|(refine zAa xE cfi xP rfl (fun _=>?_))|(refine zAa xE cro xP rfl (fun _=>?_))|(refine zAa xE (caf _ _) xP rfl (fun M=>?_);obtain ⟨M,hM⟩:=M;dsimp only at hM ⊢)|(refine zAa xE clg xP rfl (fun _=>?_))|(refine zAa xE (cen _ _) xP rfl (fun _=>?_))|(refine zAa xE cno xP rfl (fun x=>?_);obtain ⟨xa,xc⟩:=x)|(refine zAa xE cdn xP rfl (fun _=>?_)))|(refine zAh ?_;refine zAc (zAp rfl e12) ?_)|(refine zBe ?_;refine zAc (zAk rfl rfl q0) ?_)|(refine zBh ?_;refine zAc (Ev_neqNil rfl n12) ?_)|(refine zBa ?_;first|refine zAc (zAg rfl rfl q2) ?_|refine zAc (zAg rfl rfl q1) ?_)|refine xst ?_|(refine xsa ?_;intro _)|(refine xsb ?_ ?_ <;>intro _<;>try (exfalso;omega))|refine xsc ?_|fail)
 all_goals (exact xdn ⟨M,hM⟩)
set_option maxRecDepth 100000 in
theorem scommitWS_ct (hE8:ErrsOn L8 W F) (_e17:W.cell? ⟨4,0,none⟩=some (errV F 17)) (_hN:NibAt W) (h1:64≤n) (h2:n≤65536) (v used:Nat) (hv:1≤v∧v+1≤1099511627776) (hD:Still D) (_hn:D.n=n) (hus:used≤logN n)
 (hT:TbOk N a r) (A:SP) (oa:Option Addr) (oc:Nat) (ops:List BOp) (hL:Lv W opC 3 A oa ops) (ho:ops.length≤100000000) (hne:zAr ops≠[]) (hl:r.length≤100000000)
 (rc:List UInt8) (hrc:rc=zAx (zAr ops)) (hsz:rc.length≤1048576) (hlg:(rc.length:Int)≤zBi (logN n:Nat)) (hfit:¬ (used+(pcsJ rc).length≤logN n)) (hroom:(zAj (zAu r (zAr ops))).length≤234*layA n)
 (hfo:∀ M,TbOk M a r→Ct Tryz.prog W 50 [.pointer (some ⟨s,0,none⟩)] [stP s d q n (v:Nat) (some ⟨g,0,none⟩) D.life false,DiskP d D,tbP q a b,arP M] (fun _:Nat=>.nilIface) (fun g2=>[stP s d q n ((v+1:Nat):Int) (some ⟨g2,0,none⟩) D.life false,DiskP d D2,tbP q a b,arP M,jouU g2 d n (v+1) 0 D2.life])) (hD2:Still D2) (hn2:D2.n=n) (hlf:D2.life=D.life) (p1:(apGo (zAt n:Nat) (v+1) 0 (pcsJ rc) 0 D2).1=true) (p2:(apGo (zAt n:Nat) (v+1) 0 (pcsJ rc) 0 D2).2.off=false) (p3:(apGo (zAt n:Nat) (v+1) 0 (pcsJ rc) 0 D2).2.life=D2.life) (p4:(apGo (zAt n:Nat) (v+1) 0 (pcsJ rc) 0 D2).2.und.length<1073741823) (p6:(apGo (zAt n:Nat) (v+1) 0 (pcsJ rc) 0 D2).2.flushE=0) :
 Ct Tryz.prog W 25 [.pointer (some ⟨s,0,none⟩),.slice oa ops.length oc] [A,stP s d q n (v:Nat) (some ⟨g,0,none⟩) D.life false,DiskP d D,tbP q a b,arP N,jouU g d n v used D.life]
  (fun _:Nat × TbQ N (zAu r (zAr ops))=>.nilIface)
  (fun x=>[A,stP s d q n ((v+1:Nat):Int) (some ⟨x.1,0,none⟩) D.life false,DiskP d (apGo (zAt n:Nat) (v+1) 0 (pcsJ rc) 0 D2).2.flushD,tbP q x.2.1.2.1 x.2.1.2.2,arP x.2.1.1,jouU x.1 d n (v+1) (pcsJ rc).length D2.life]):=by
 have e12:W.cell? ⟨2,0,none⟩=some (errV F 12):=hE8.at_ 12 (by decide)
 have n12:=errNe (F:=F) (e:=12) (by omega)
 have hA:=layA_le h2
 obtain ⟨f1,f2,f3,f4⟩:=zBn h1 v
 have hlN:1≤logN n:=by unfold logN layA;omega
 have hdn:zCg D D.life false=false:=by unfold zCg;rw [hD.on];simp
 have hpl:=pcsJ_length rc
 have hcl:=cost_large hlN (by omega) hlg
 have cdn:=sup_ct (W:=W) (s:=s) (d:=d) (q:=q) (n:=n) (v:Nat) (some ⟨g,0,none⟩) D.life hdn
 have cno:=bnormal_ct (W:=W) A oa oc ops hL (by omega)
 have hnl:(zAr ops).length≤ops.length:=nrm_len ops
 have hen:=normD_enc ops
 obtain ⟨os,hos⟩:∃ os,os=zAr ops:=⟨_,rfl⟩
 rw [← hos] at cno hnl hne hen hrc hroom ⊢
 rw [← hrc] at hen
 have hown:∀ xa xc,Lv W opC 3 (lsP opC 73 3 (.slice xa os.length xc) os) xa os:=fun xa xc=>Lv.own enc_op rfl
 have cen:=fun xa xc=>bencode_ct (W:=W) (F:=F) _ xa xc os (hown xa xc) (by rw [← hrc];omega) (by omega) (fun h=>by rw [hen] at h;cases h) (fun h=>by rw [hen] at h;cases h)
 rw [hen] at cen
 have clg:=slargest_ct (W:=W) (s:=s) (d:=d) (q:=q) (n:=n) (v:Nat) (some ⟨g,0,none⟩) D.life false h2
 have cro:=sroom_ct (W:=W) (s:=s) (d:=d) (q:=q) (n:=n) (v:Nat) (some ⟨g,0,none⟩) D.life false h2
 have caf:=fun xa xc=>safter_ct (W:=W) (s:=s) (d:=d) (q:=q) (n:=n) (b:=b) (v:Nat) (some ⟨g,0,none⟩) D.life false hT _ xa xc os (hown xa xc) (by omega) (by omega)
 have cfi:=fits_ct (W:=W) (p:=d) (g:=g) (zAt n:Nat) (logN n:Nat) (v:Nat) (used:Nat) D.life false rc.length (by omega) ⟨by omega,by omega⟩ ⟨by omega,by omega⟩
 rw [show decide (0≤(rc.length:Int)∧costI rc.length≤(logN n:Nat)-(used:Nat))=false from decide_eq_false (by omega)] at cfi
 have hdn2:zCg D2 D2.life false=false:=by unfold zCg;rw [hD2.on];simp
 have cap:=fun g2=>append_ct (W:=W) (p:=d) (g:=g2) (D:=D2) hE8 _e17 _hN (zAt n:Nat) (logN n:Nat) D2.life (v+1) 0 rc (by omega) hdn2 ⟨by omega,by omega⟩ (by omega) hsz (by omega) ⟨by omega,by omega⟩ ⟨by omega,by omega⟩ (by rw [hD2.und];simp)
 rw [p1] at cap
 have hu2:((0:Nat):Int)+costI rc.length=(((pcsJ rc).length:Nat):Int):=by omega
 simp only [if_true,Bool.not_true,hu2] at cap
 have csy:=fun g2=>sync_ct (W:=W) (p:=d) (g:=g2) (D:=(apGo (zAt n:Nat) (v+1) 0 (pcsJ rc) 0 D2).2) hE8 (zAt n:Nat) (logN n:Nat) ((v+1:Nat):Int) (((pcsJ rc).length:Nat):Int) D2.life (by unfold zCg;rw [p2,p3];simp) (by omega)
 rw [p6] at csy
 simp only [if_true] at csy
 obtain ⟨D3,hD3⟩:∃ D3,D3=(apGo (zAt n:Nat) (v+1) 0 (pcsJ rc) 0 D2).2:=⟨_,rfl⟩
 rw [← hD3] at cap csy ⊢
 clear hD3
 have cba:=fun (M:List Nd) (hM:∀ y ∈ N,y ∈ M) xa xc=>bapply_ct (W:=W) (p:=q) (tb:=b) (hT.mono hM) _ xa xc os (hown xa xc) (by omega)
 rw [hlf] at cap hfo ⊢
 rw [hlf] at csy
 have q0:decide (((os.length:Nat):Int)=0)=false:=decide_eq_false (by
  have:=List.length_pos_iff.2 hne
  omega)
 have q1:decide (zBi (logN n:Nat)<(rc.length:Nat))=false:=decide_eq_false (by omega)
 have q2:decide (((234*layA n:Nat):Int)<((zAj (zAu r os)).length:Nat))=false:=decide_eq_false (by omega)
 refine Ct.enter Tryz.func25 rfl Tryz.ntmps25 (by simp) (fun R=>?_)
 repeat' (first|(refine zAd ?_;first|(refine zAa xE (cba M hM _ _) xP rfl (fun y=>?_);obtain ⟨⟨M2,a2,b2⟩,gM,hT2⟩:=y;dsimp only at gM hT2 ⊢)|(refine zAa xE (csy _) xP rfl (fun _=>?_))|(refine zAa xE (cap _) xP rfl (fun _=>?_))|(refine zAa xE (hfo M (hT.mono hM)) xP rfl (fun g2=>?_))|(refine zAa xE cfi xP rfl (fun _=>?_))|(refine zAa xE cro xP rfl (fun _=>?_))|(refine zAa xE (caf _ _) xP rfl (fun M=>?_);obtain ⟨M,hM⟩:=M;dsimp only at hM ⊢)|(refine zAa xE clg xP rfl (fun _=>?_))|(refine zAa xE (cen _ _) xP rfl (fun _=>?_))|(refine zAa xE cno xP rfl (fun x=>?_);obtain ⟨xa,xc⟩:=x)|(refine zAa xE cdn xP rfl (fun _=>?_)))|(refine zAh ?_;refine zAc (zAp rfl e12) ?_)|(refine zBe ?_;refine zAc (zAk rfl rfl q0) ?_)|(refine zBa ?_;first|refine zAc (zAg rfl rfl q2) ?_|refine zAc (zAg rfl rfl q1) ?_)|refine xst ?_|(refine xsa ?_;intro _)|(refine xsb ?_ ?_ <;>intro _<;>try (exfalso;omega))|refine xsc ?_|fail)
 all_goals (exact xdn (g2,⟨(M2,a2,b2),fun y hy=>gM y (hM y hy),hT2⟩))
set_option maxRecDepth 100000 in
theorem scommitWA_ct (hE8:ErrsOn L8 W F) (_e17:W.cell? ⟨4,0,none⟩=some (errV F 17)) (_hN:NibAt W) (h1:64≤n) (h2:n≤65536) (v used:Nat) (hv:1≤v∧v+1≤1099511627776) (hD:Still D) (_hn:D.n=n) (hus:used≤logN n)
 (hT:TbOk N a r) (A:SP) (oa:Option Addr) (oc:Nat) (ops:List BOp) (hL:Lv W opC 3 A oa ops) (ho:ops.length≤100000000) (hne:zAr ops≠[]) (hl:r.length≤100000000)
 (rc:List UInt8) (hrc:rc=zAx (zAr ops)) (hsz:rc.length≤1048576) (hlg:(rc.length:Int)≤zBi (logN n:Nat)) (hfit:¬ (used+(pcsJ rc).length≤logN n)) (hroom:(zAj (zAu r (zAr ops))).length≤234*layA n)
 (hfo:∀ M,TbOk M a r→Ct Tryz.prog W 50 [.pointer (some ⟨s,0,none⟩)] [stP s d q n (v:Nat) (some ⟨g,0,none⟩) D.life false,DiskP d D,tbP q a b,arP M] (fun _:Nat=>.nilIface) (fun g2=>[stP s d q n ((v+1:Nat):Int) (some ⟨g2,0,none⟩) D.life false,DiskP d D2,tbP q a b,arP M,jouU g2 d n (v+1) 0 D2.life])) (hD2:Still D2) (hn2:D2.n=n) (hlf:D2.life=D.life) (p1:(apGo (zAt n:Nat) (v+1) 0 (pcsJ rc) 0 D2).1=false) :
 Ct Tryz.prog W 25 [.pointer (some ⟨s,0,none⟩),.slice oa ops.length oc] [A,stP s d q n (v:Nat) (some ⟨g,0,none⟩) D.life false,DiskP d D,tbP q a b,arP N,jouU g d n v used D.life]
  (fun _:{M:List Nd//∀ y ∈ N,y ∈ M} × Option Addr=>errV F 12)
  (fun x=>[A,stP s d q n (v:Nat) x.2 D.life true,DiskP d (apGo (zAt n:Nat) (v+1) 0 (pcsJ rc) 0 D2).2,tbP q a b,arP x.1.1]):=by
 have e12:W.cell? ⟨2,0,none⟩=some (errV F 12):=hE8.at_ 12 (by decide)
 have n12:=errNe (F:=F) (e:=12) (by omega)
 have hA:=layA_le h2
 obtain ⟨f1,f2,f3,f4⟩:=zBn h1 v
 have hlN:1≤logN n:=by unfold logN layA;omega
 have hdn:zCg D D.life false=false:=by unfold zCg;rw [hD.on];simp
 have hpl:=pcsJ_length rc
 have hcl:=cost_large hlN (by omega) hlg
 have cdn:=sup_ct (W:=W) (s:=s) (d:=d) (q:=q) (n:=n) (v:Nat) (some ⟨g,0,none⟩) D.life hdn
 have cno:=bnormal_ct (W:=W) A oa oc ops hL (by omega)
 have hnl:(zAr ops).length≤ops.length:=nrm_len ops
 have hen:=normD_enc ops
 obtain ⟨os,hos⟩:∃ os,os=zAr ops:=⟨_,rfl⟩
 rw [← hos] at cno hnl hne hen hrc hroom
 rw [← hrc] at hen
 have hown:∀ xa xc,Lv W opC 3 (lsP opC 73 3 (.slice xa os.length xc) os) xa os:=fun xa xc=>Lv.own enc_op rfl
 have cen:=fun xa xc=>bencode_ct (W:=W) (F:=F) _ xa xc os (hown xa xc) (by rw [← hrc];omega) (by omega) (fun h=>by rw [hen] at h;cases h) (fun h=>by rw [hen] at h;cases h)
 rw [hen] at cen
 have clg:=slargest_ct (W:=W) (s:=s) (d:=d) (q:=q) (n:=n) (v:Nat) (some ⟨g,0,none⟩) D.life false h2
 have cro:=sroom_ct (W:=W) (s:=s) (d:=d) (q:=q) (n:=n) (v:Nat) (some ⟨g,0,none⟩) D.life false h2
 have caf:=fun xa xc=>safter_ct (W:=W) (s:=s) (d:=d) (q:=q) (n:=n) (b:=b) (v:Nat) (some ⟨g,0,none⟩) D.life false hT _ xa xc os (hown xa xc) (by omega) (by omega)
 have cfi:=fits_ct (W:=W) (p:=d) (g:=g) (zAt n:Nat) (logN n:Nat) (v:Nat) (used:Nat) D.life false rc.length (by omega) ⟨by omega,by omega⟩ ⟨by omega,by omega⟩
 rw [show decide (0≤(rc.length:Int)∧costI rc.length≤(logN n:Nat)-(used:Nat))=false from decide_eq_false (by omega)] at cfi
 have hdn2:zCg D2 D2.life false=false:=by unfold zCg;rw [hD2.on];simp
 have cap:=fun g2=>append_ct (W:=W) (p:=d) (g:=g2) (D:=D2) hE8 _e17 _hN (zAt n:Nat) (logN n:Nat) D2.life (v+1) 0 rc (by omega) hdn2 ⟨by omega,by omega⟩ (by omega) hsz (by omega) ⟨by omega,by omega⟩ ⟨by omega,by omega⟩ (by rw [hD2.und];simp)
 rw [p1] at cap
 simp only [Bool.false_eq_true,if_false] at cap
 obtain ⟨D3,hD3⟩:∃ D3,D3=(apGo (zAt n:Nat) (v+1) 0 (pcsJ rc) 0 D2).2:=⟨_,rfl⟩
 rw [← hD3] at cap ⊢
 clear hD3
 rw [hlf] at cap hfo
 have q0:decide (((os.length:Nat):Int)=0)=false:=decide_eq_false (by
  have:=List.length_pos_iff.2 hne
  omega)
 have q1:decide (zBi (logN n:Nat)<(rc.length:Nat))=false:=decide_eq_false (by omega)
 have q2:decide (((234*layA n:Nat):Int)<((zAj (zAu r os)).length:Nat))=false:=decide_eq_false (by omega)
 refine Ct.enter Tryz.func25 rfl Tryz.ntmps25 (by simp) (fun R=>?_)
 repeat' (first|(refine zAd ?_;first|(refine zAa xE (cap _) xP rfl (fun _=>?_))|(refine zAa xE (hfo M (hT.mono hM)) xP rfl (fun g2=>?_))|(refine zAa xE cfi xP rfl (fun _=>?_))|(refine zAa xE cro xP rfl (fun _=>?_))|(refine zAa xE (caf _ _) xP rfl (fun M=>?_);obtain ⟨M,hM⟩:=M;dsimp only at hM ⊢)|(refine zAa xE clg xP rfl (fun _=>?_))|(refine zAa xE (cen _ _) xP rfl (fun _=>?_))|(refine zAa xE cno xP rfl (fun x=>?_);obtain ⟨xa,xc⟩:=x)|(refine zAa xE cdn xP rfl (fun _=>?_)))|(refine zAh ?_;refine zAc (zAp rfl e12) ?_)|(refine zBe ?_;refine zAc (zAk rfl rfl q0) ?_)|(refine zBh ?_;refine zAc (Ev_neqNil rfl n12) ?_)|(refine zBa ?_;first|refine zAc (zAg rfl rfl q2) ?_|refine zAc (zAg rfl rfl q1) ?_)|refine xst ?_|(refine xsa ?_;intro _)|(refine xsb ?_ ?_ <;>intro _<;>try (exfalso;omega))|refine xsc ?_|fail)
 all_goals (exact xdn (⟨M,hM⟩,some ⟨g2,0,none⟩))
set_option maxRecDepth 100000 in
theorem scommitWF_ct (hE8:ErrsOn L8 W F) (_e17:W.cell? ⟨4,0,none⟩=some (errV F 17)) (_hN:NibAt W) (h1:64≤n) (h2:n≤65536) (v used:Nat) (hv:1≤v∧v+1≤1099511627776) (hD:Still D) (_hn:D.n=n) (hus:used≤logN n)
 (hT:TbOk N a r) (A:SP) (oa:Option Addr) (oc:Nat) (ops:List BOp) (hL:Lv W opC 3 A oa ops) (ho:ops.length≤100000000) (hne:zAr ops≠[]) (hl:r.length≤100000000)
 (rc:List UInt8) (hrc:rc=zAx (zAr ops)) (hsz:rc.length≤1048576) (hlg:(rc.length:Int)≤zBi (logN n:Nat)) (hfit:¬ (used+(pcsJ rc).length≤logN n)) (hroom:(zAj (zAu r (zAr ops))).length≤234*layA n)
 (hfo:∀ M,TbOk M a r→Ct Tryz.prog W 50 [.pointer (some ⟨s,0,none⟩)] [stP s d q n (v:Nat) (some ⟨g,0,none⟩) D.life false,DiskP d D,tbP q a b,arP M] (fun _:Nat=>.nilIface) (fun g2=>[stP s d q n ((v+1:Nat):Int) (some ⟨g2,0,none⟩) D.life false,DiskP d D2,tbP q a b,arP M,jouU g2 d n (v+1) 0 D2.life])) (hD2:Still D2) (hn2:D2.n=n) (hlf:D2.life=D.life) (p1:(apGo (zAt n:Nat) (v+1) 0 (pcsJ rc) 0 D2).1=true) (p2:(apGo (zAt n:Nat) (v+1) 0 (pcsJ rc) 0 D2).2.off=false) (p3:(apGo (zAt n:Nat) (v+1) 0 (pcsJ rc) 0 D2).2.life=D2.life) (p4:(apGo (zAt n:Nat) (v+1) 0 (pcsJ rc) 0 D2).2.und.length<1073741823) (p6:(apGo (zAt n:Nat) (v+1) 0 (pcsJ rc) 0 D2).2.flushE=12) :
 Ct Tryz.prog W 25 [.pointer (some ⟨s,0,none⟩),.slice oa ops.length oc] [A,stP s d q n (v:Nat) (some ⟨g,0,none⟩) D.life false,DiskP d D,tbP q a b,arP N,jouU g d n v used D.life]
  (fun _:{M:List Nd//∀ y ∈ N,y ∈ M} × Option Addr=>errV F 12)
  (fun x=>[A,stP s d q n (v:Nat) x.2 D.life true,DiskP d (apGo (zAt n:Nat) (v+1) 0 (pcsJ rc) 0 D2).2.flushD,tbP q a b,arP x.1.1]):=by
 have e12:W.cell? ⟨2,0,none⟩=some (errV F 12):=hE8.at_ 12 (by decide)
 have n12:=errNe (F:=F) (e:=12) (by omega)
 have hA:=layA_le h2
 obtain ⟨f1,f2,f3,f4⟩:=zBn h1 v
 have hlN:1≤logN n:=by unfold logN layA;omega
 have hdn:zCg D D.life false=false:=by unfold zCg;rw [hD.on];simp
 have hpl:=pcsJ_length rc
 have hcl:=cost_large hlN (by omega) hlg
 have cdn:=sup_ct (W:=W) (s:=s) (d:=d) (q:=q) (n:=n) (v:Nat) (some ⟨g,0,none⟩) D.life hdn
 have cno:=bnormal_ct (W:=W) A oa oc ops hL (by omega)
 have hnl:(zAr ops).length≤ops.length:=nrm_len ops
 have hen:=normD_enc ops
 obtain ⟨os,hos⟩:∃ os,os=zAr ops:=⟨_,rfl⟩
 rw [← hos] at cno hnl hne hen hrc hroom
 rw [← hrc] at hen
 have hown:∀ xa xc,Lv W opC 3 (lsP opC 73 3 (.slice xa os.length xc) os) xa os:=fun xa xc=>Lv.own enc_op rfl
 have cen:=fun xa xc=>bencode_ct (W:=W) (F:=F) _ xa xc os (hown xa xc) (by rw [← hrc];omega) (by omega) (fun h=>by rw [hen] at h;cases h) (fun h=>by rw [hen] at h;cases h)
 rw [hen] at cen
 have clg:=slargest_ct (W:=W) (s:=s) (d:=d) (q:=q) (n:=n) (v:Nat) (some ⟨g,0,none⟩) D.life false h2
 have cro:=sroom_ct (W:=W) (s:=s) (d:=d) (q:=q) (n:=n) (v:Nat) (some ⟨g,0,none⟩) D.life false h2
 have caf:=fun xa xc=>safter_ct (W:=W) (s:=s) (d:=d) (q:=q) (n:=n) (b:=b) (v:Nat) (some ⟨g,0,none⟩) D.life false hT _ xa xc os (hown xa xc) (by omega) (by omega)
 have cfi:=fits_ct (W:=W) (p:=d) (g:=g) (zAt n:Nat) (logN n:Nat) (v:Nat) (used:Nat) D.life false rc.length (by omega) ⟨by omega,by omega⟩ ⟨by omega,by omega⟩
 rw [show decide (0≤(rc.length:Int)∧costI rc.length≤(logN n:Nat)-(used:Nat))=false from decide_eq_false (by omega)] at cfi
 have hdn2:zCg D2 D2.life false=false:=by unfold zCg;rw [hD2.on];simp
 have cap:=fun g2=>append_ct (W:=W) (p:=d) (g:=g2) (D:=D2) hE8 _e17 _hN (zAt n:Nat) (logN n:Nat) D2.life (v+1) 0 rc (by omega) hdn2 ⟨by omega,by omega⟩ (by omega) hsz (by omega) ⟨by omega,by omega⟩ ⟨by omega,by omega⟩ (by rw [hD2.und];simp)
 rw [p1] at cap
 have hu2:((0:Nat):Int)+costI rc.length=(((pcsJ rc).length:Nat):Int):=by omega
 simp only [if_true,Bool.not_true,hu2] at cap
 have csy:=fun g2=>sync_ct (W:=W) (p:=d) (g:=g2) (D:=(apGo (zAt n:Nat) (v+1) 0 (pcsJ rc) 0 D2).2) hE8 (zAt n:Nat) (logN n:Nat) ((v+1:Nat):Int) (((pcsJ rc).length:Nat):Int) D2.life (by unfold zCg;rw [p2,p3];simp) (by omega)
 rw [p6] at csy
 rw [if_neg (by omega:¬ (12:Nat)=0)] at csy
 obtain ⟨D3,hD3⟩:∃ D3,D3=(apGo (zAt n:Nat) (v+1) 0 (pcsJ rc) 0 D2).2:=⟨_,rfl⟩
 rw [← hD3] at cap csy ⊢
 clear hD3
 rw [hlf] at cap hfo
 rw [hlf] at csy
 have q0:decide (((os.length:Nat):Int)=0)=false:=decide_eq_false (by
  have:=List.length_pos_iff.2 hne
  omega)
 have q1:decide (zBi (logN n:Nat)<(rc.length:Nat))=false:=decide_eq_false (by omega)
 have q2:decide (((234*layA n:Nat):Int)<((zAj (zAu r os)).length:Nat))=false:=decide_eq_false (by omega)
 refine Ct.enter Tryz.func25 rfl Tryz.ntmps25 (by simp) (fun R=>?_)
 repeat' (first|(refine zAd ?_;first|(refine zAa xE (csy _) xP rfl (fun _=>?_))|(refine zAa xE (cap _) xP rfl (fun _=>?_))|(refine zAa xE (hfo M (hT.mono hM)) xP rfl (fun g2=>?_))|(refine zAa xE cfi xP rfl (fun _=>?_))|(refine zAa xE cro xP rfl (fun _=>?_))|(refine zAa xE (caf _ _) xP rfl (fun M=>?_);obtain ⟨M,hM⟩:=M;dsimp only at hM ⊢)|(refine zAa xE clg xP rfl (fun _=>?_))|(refine zAa xE (cen _ _) xP rfl (fun _=>?_))|(refine zAa xE cno xP rfl (fun x=>?_);obtain ⟨xa,xc⟩:=x)|(refine zAa xE cdn xP rfl (fun _=>?_)))|(refine zAh ?_;refine zAc (zAp rfl e12) ?_)|(refine zBe ?_;refine zAc (zAk rfl rfl q0) ?_)|(refine zBh ?_;refine zAc (Ev_neqNil rfl n12) ?_)|(refine zBa ?_;first|refine zAc (zAg rfl rfl q2) ?_|refine zAc (zAg rfl rfl q1) ?_)|refine xst ?_|(refine xsa ?_;intro _)|(refine xsb ?_ ?_ <;>intro _<;>try (exfalso;omega))|refine xsc ?_|fail)
 all_goals (exact xdn (⟨M,hM⟩,some ⟨g2,0,none⟩))
end
end Go.Proofs.YtnkhohfbijkohaaGreatDoor
namespace Go.Proofs.YtnkhohfbijkohaaGreatDoor
open Go Go.RowKit
section
variable {W:World} {F:Nat→Addr} {r:Rows} {s n:Nat}
set_option maxRecDepth 100000 in
theorem scommitV_ct (hE:ErrsOn L16 W F) (h1:64≤n) (h2:n≤65536) {d q g:Nat} {D:Dsk} {N:List Nd} {a:Option Addr} {b:Int} (v used:Nat) (hR:Still D) (hT:TbOk N a r)
 (A:SP) (oa:Option Addr) (oc:Nat) (ops:List BOp) (hL:Lv W opC 3 A oa ops) (ho:ops.length≤100000000) (hl:r.length≤100000000) (hb:(zAx (zAr ops)).length≤100000000000000) (hsb:(zAj (zAu r (zAr ops))).length≤4611686018427387904)
 (hno:zAr ops=[]∨commE n r ops≠0) :
 Ct Tryz.prog W 25 [.pointer (some ⟨s,0,none⟩),.slice oa ops.length oc] [A,stP s d q n (v:Nat) (some ⟨g,0,none⟩) D.life false,DiskP d D,tbP q a b,arP N,jouU g d n v used D.life] (fun _:{M:List Nd//∀ y ∈ N,y ∈ M}=>errV F (commE n r ops)) (fun x=>[A,stP s d q n (v:Nat) (some ⟨g,0,none⟩) D.life false,DiskP d D,tbP q a b,arP x.1,jouU g d n v used D.life]):=by
 have hA:=layA_le h2
 have hlN:1≤logN n∧logN n≤65536:=by unfold logN layA;omega
 have hdn:zCg D D.life false=false:=by unfold zCg;rw [hR.on];simp
 have e17:W.cell? ⟨4,0,none⟩=some (errV F 17):=hE.at_ 17 (by decide)
 have e18:W.cell? ⟨6,0,none⟩=some (errV F 18):=hE.at_ 18 (by decide)
 have cdn:=sup_ct (W:=W) (s:=s) (d:=d) (q:=q) (n:=n) (v:Nat) (some ⟨g,0,none⟩) D.life hdn
 have cno:=bnormal_ct (W:=W) A oa oc ops hL (by omega)
 have hnl:(zAr ops).length≤ops.length:=nrm_len ops
 have hen:=normD_enc ops
 have hcE:commE n r ops=if zAr ops=[] then 0 else if zBi (logN n:Nat)<((zAx (zAr ops)).length:Nat) then 18 else if 234*layA n<(zAj (zAu r (zAr ops))).length then 17 else 0:=rfl
 obtain ⟨os,hos⟩:∃ os,os=zAr ops:=⟨_,rfl⟩
 obtain ⟨ce,hce⟩:∃ e,e=commE n r ops:=⟨_,rfl⟩
 rw [← hos] at cno hnl hen hcE hb hsb hno
 rw [← hce] at hcE hno ⊢
 obtain ⟨rc,hrc⟩:∃ rc,rc=zAx os:=⟨_,rfl⟩
 rw [← hrc] at hen hcE hb
 have hown:∀ xa xc,Lv W opC 3 (lsP opC 73 3 (.slice xa os.length xc) os) xa os:=fun xa xc=>Lv.own enc_op rfl
 have cen:=fun xa xc=>bencode_ct (W:=W) (F:=F) _ xa xc os (hown xa xc) (by rw [← hrc];omega) (by omega) (fun h=>by rw [hen] at h;cases h) (fun h=>by rw [hen] at h;cases h)
 rw [hen] at cen
 have clg:=slargest_ct (W:=W) (s:=s) (d:=d) (q:=q) (n:=n) (v:Nat) (some ⟨g,0,none⟩) D.life false h2
 have cro:=sroom_ct (W:=W) (s:=s) (d:=d) (q:=q) (n:=n) (v:Nat) (some ⟨g,0,none⟩) D.life false h2
 have caf:=fun xa xc=>safter_ct (W:=W) (s:=s) (d:=d) (q:=q) (n:=n) (b:=b) (v:Nat) (some ⟨g,0,none⟩) D.life false hT _ xa xc os (hown xa xc) (by omega) hsb
 by_cases hz:os=[]
 ·rw [if_pos hz] at hcE
  have q0:decide (((os.length:Nat):Int)=0)=true:=decide_eq_true (by rw [hz];rfl)
  rw [hcE]
  show Ct Tryz.prog W 25 _ _ (fun _:{M:List Nd//∀ y ∈ N,y ∈ M}=>.nilIface) _
  refine Ct.enter Tryz.func25 rfl Tryz.ntmps25 (by simp) (fun R=>?_)
  repeat' (first|(refine zAd ?_;first|(refine zAa xE (cen _ _) xP rfl (fun _=>?_))|(refine zAa xE cno xP rfl (fun x=>?_);obtain ⟨xa,xc⟩:=x)|(refine zAa xE cdn xP rfl (fun _=>?_)))|(refine zBe ?_;refine zAc (zAk rfl rfl q0) ?_)|refine xst ?_|(refine xsa ?_;intro _)|(refine xsb ?_ ?_ <;>intro _<;>try (exfalso;omega))|refine xsc ?_|fail)
  all_goals (exact xdn ⟨N,fun _ h=>h⟩)
 rw [if_neg hz] at hcE
 have hno:ce≠0:=by rcases hno with h|h;exact absurd h hz;exact h
 have q0:decide (((os.length:Nat):Int)=0)=false:=decide_eq_false (by
  have:=List.length_pos_iff.2 hz
  omega)
 have hlv:=largest_val hlN.1 hlN.2
 by_cases hg:zBi (logN n:Nat)<(rc.length:Nat)
 ·rw [if_pos hg] at hcE
  have q1:decide (zBi (logN n:Nat)<(rc.length:Nat))=true:=decide_eq_true hg
  rw [hcE]
  refine Ct.enter Tryz.func25 rfl Tryz.ntmps25 (by simp) (fun R=>?_)
  repeat' (first|(refine zAd ?_;first|(refine zAa xE clg xP rfl (fun _=>?_))|(refine zAa xE (cen _ _) xP rfl (fun _=>?_))|(refine zAa xE cno xP rfl (fun x=>?_);obtain ⟨xa,xc⟩:=x)|(refine zAa xE cdn xP rfl (fun _=>?_)))|(refine zAh ?_;refine zAc (zAp rfl e18) ?_)|(refine zBe ?_;refine zAc (zAk rfl rfl q0) ?_)|(refine zBa ?_;refine zAc (zAg rfl rfl q1) ?_)|refine xst ?_|(refine xsa ?_;intro _)|(refine xsb ?_ ?_ <;>intro _<;>try (exfalso;omega))|refine xsc ?_|fail)
  all_goals (exact xdn ⟨N,fun _ h=>h⟩)
 rw [if_neg hg] at hcE
 have q1:decide (zBi (logN n:Nat)<(rc.length:Nat))=false:=decide_eq_false hg
 by_cases hf:234*layA n<(zAj (zAu r os)).length
 ·rw [if_pos hf] at hcE
  have q2:decide (((234*layA n:Nat):Int)<((zAj (zAu r os)).length:Nat))=true:=decide_eq_true (by omega)
  rw [hcE]
  refine Ct.enter Tryz.func25 rfl Tryz.ntmps25 (by simp) (fun R=>?_)
  repeat' (first|(refine zAd ?_;first|(refine zAa xE cro xP rfl (fun _=>?_))|(refine zAa xE (caf _ _) xP rfl (fun M=>?_);obtain ⟨M,hM⟩:=M;dsimp only at hM ⊢)|(refine zAa xE clg xP rfl (fun _=>?_))|(refine zAa xE (cen _ _) xP rfl (fun _=>?_))|(refine zAa xE cno xP rfl (fun x=>?_);obtain ⟨xa,xc⟩:=x)|(refine zAa xE cdn xP rfl (fun _=>?_)))|(refine zAh ?_;refine zAc (zAp rfl e17) ?_)|(refine zBe ?_;refine zAc (zAk rfl rfl q0) ?_)|(refine zBa ?_;first|refine zAc (zAg rfl rfl q2) ?_|refine zAc (zAg rfl rfl q1) ?_)|refine xst ?_|(refine xsa ?_;intro _)|(refine xsb ?_ ?_ <;>intro _<;>try (exfalso;omega))|refine xsc ?_|fail)
  all_goals (exact xdn ⟨M,hM⟩)
 ·rw [if_neg hf] at hcE
  exact absurd hcE hno
end
end Go.Proofs.YtnkhohfbijkohaaGreatDoor
namespace Go.Proofs.YtnkhohfbijkohaaGreatDoor
open Go Go.RowKit
theorem rec_ok {ops:List BOp} (hf:OpsFit ops) (hl:(zAx (zAr ops)).length≤14040):RcOk (zAx (zAr ops))∧(decode (zAx (zAr ops))).1=zAr ops:=by
 have h0:=enc_sum (zAr ops)
 have h1:(zAr ops).length*1≤sumW opW (zAr ops):=sumW_const (w:=opW) (c:=1) fun o _=>by
  unfold opW encOp
  split
  ·simp
  ·simp
 have hd:=decode_enc (os:=zAr ops) [] (normD_rising ops) (fun o ho=>⟨normD_nrm ho,by
  obtain ⟨p,hp,e1,e2⟩:=lastOf_from' ((normD_mem ops o).1 ho)
  obtain ⟨k1,k2⟩:=hf.each p hp
  obtain ⟨pd,pk,pv⟩:=p
  subst e2
  dsimp only at k1 k2
  unfold Fit BOp.nrm
  cases pd <;> exact ⟨by simp;omega,by simp <;> omega⟩⟩) (by omega)
 rw [List.append_nil,if_pos rfl] at hd
 refine ⟨⟨by rw [hd],hl,?_⟩,by rw [hd]⟩
 rw [hd]
 dsimp only
 omega
theorem recs_few:∀ (recs:List (List UInt8)),recs.length≤(recs.flatMap pcsJ).length
 |[]=>Nat.le_refl _
 |rc::recs=>by
  have:=recs_few recs
  rw [List.flatMap_cons,List.length_append,List.length_cons]
  have h:1≤(pcsJ rc).length:=by unfold pcsJ;rw [List.length_cons];omega
  omega
theorem Comes.more {n:Nat} {r0 r r2:Rows} {recs:List (List UInt8)} {rc:List UInt8} (h:Comes n r0 recs r) (hrc:RcOk rc) (hr2:zAu r (decode rc).1=r2) (hroom:(zAj r2).length≤234*layA n) (hfew:recs.length+1≤100):Comes n r0 (recs++[rc]) r2:=by
 refine ⟨h.ris0,h.room0,fun x hx=>?_,by rw [List.length_append,List.length_singleton];exact hfew,?_,by rw [← hr2];exact applyB_ris h.ris _,hroom⟩
 ·rcases List.mem_append.1 hx with q|q
  ·exact h.ok x q
  ·rw [List.mem_singleton] at q
   subst q
   exact hrc
 ·have e1:(recs++[rc])[recs.length]? = some rc:=by rw [List.getElem?_append_right (Nat.le_refl _),Nat.sub_self];rfl
  have e2:=lgR_next r0 e1
  rw [List.length_append,List.length_singleton,e2]
  have e3:lgR r0 (recs++[rc]) recs.length=lgR r0 recs recs.length:=by
   unfold lgR
   rw [List.take_append_of_le_length (Nat.le_refl _)]
  rw [e3,h.is_]
  exact hr2
section
variable {W:World} {F:Nat→Addr} {n m s:Nat} {r:Rows}
structure CutD (n m:Nat) (r r2:Rows) (D:Dsk):Prop where
 off:D.off=true
 ok:D.ok
 nn:D.n=n
 und:D.und.length≤65536
 open_:∀ kept torn bytes,OpA n m r (D.crash kept torn bytes)∨OpA n m r2 (D.crash kept torn bytes)
abbrev deadL (s n:Nat) (x:StH) (D2:Dsk) (y:{M:List Nd//∀ z ∈ x.N,z ∈ M} × Option Addr):List SP:=[stP s x.d x.q n (x.v:Nat) y.2 x.D.life true,DiskP x.d D2,tbP x.q x.a x.b,arP y.1.1]
theorem scommitA (hE:ErrsOn L16 W F) (hE8:ErrsOn L8 W F) (hN:NibAt W) (h1:64≤n) (h2:n≤176) (hm:m+2≤1099511627776) (x:StH) (hS:StA n m r x)
 (A:SP) (oa:Option Addr) (oc:Nat) (ops:List BOp) (hL:Lv W opC 3 A oa ops) (hf:OpsFit ops) :
 (∃ D2:Dsk,CutD n (m+1) r (zAu r ops) D2∧
  Ct Tryz.prog W 25 [.pointer (some ⟨s,0,none⟩),.slice oa ops.length oc] (A::stL s n x) (fun _:{M:List Nd//∀ z ∈ x.N,z ∈ M} × Option Addr=>errV F 12) (fun y=>A::deadL s n x D2 y))∨
 Ct Tryz.prog W 25 [.pointer (some ⟨s,0,none⟩),.slice oa ops.length oc] (A::stL s n x) (fun _:{y:StH//StA n (m+1) (commR n r ops) y∧y.d=x.d}=>errV F (commE n r ops)) (fun y=>A::stL s n y.1):=by
 obtain ⟨d,q,g,v,used,D,N,a,b⟩:=x
 obtain ⟨⟨r0,recs,hW,hu,hC⟩,v1,vm,hT⟩:=hS
 dsimp only at hW hu v1 vm hT ⊢
 obtain ⟨f1,f2,f3,f4⟩:=zBn h1 v
 have hlA:layA n≤65536:=by unfold layA;omega
 have hlN:1≤logN n∧logN n≤60:=by unfold logN layA;omega
 have hroom:=hC.room
 obtain ⟨hrl,hrs⟩:=rows_room hroom (by omega)
 have hol:=hf.len
 have hsa:=hf.snap hC.ris (by omega)
 have hst:=hW.still
 have hn:=hW.nn
 have hfitU:=hW.log.fit
 have e17:W.cell? ⟨4,0,none⟩=some (errV F 17):=hE.at_ 17 (by decide)
 by_cases hno:zAr ops=[]∨commE n r ops≠0
 ·right
  have hr:commR n r ops=r:=by
   unfold commR
   split
   ·rename_i h0
    rcases hno with h|h
    ·rw [h];rfl
    ·exact absurd h0 h
   ·rfl
  rw [hr]
  have hc:=scommitV_ct (W:=W) (F:=F) (s:=s) (d:=d) (q:=q) (g:=g) (b:=b) hE h1 (by omega) v used hst hT A oa oc ops hL (by omega) (by omega) hf.enc (by rw [apply_normD hC.ris];exact hsa) hno
  exact hc.to (fun y=>⟨⟨d,q,g,v,used,D,y.1,a,b⟩,⟨⟨r0,recs,hW,hu,hC⟩,v1,by dsimp only;omega,hT.mono y.2⟩,rfl⟩) (fun _=>rfl) (fun y R g q=>q)
 have hne:zAr ops≠[]:=fun h=>hno (.inl h)
 have h0:commE n r ops=0:=Classical.byContradiction fun h=>hno (.inr h)
 have hr:commR n r ops=zAu r (zAr ops):=if_pos h0
 have hrr:zAu r (zAr ops)=zAu r ops:=apply_normD hC.ris ops
 have hce:=h0
 unfold commE at hce
 rw [if_neg hne] at hce
 have hlg:¬ zBi (logN n:Nat)<((zAx (zAr ops)).length:Nat):=fun h=>by rw [if_pos h] at hce;cases hce
 rw [if_neg hlg] at hce
 have hrm:¬ 234*layA n<(zAj (zAu r (zAr ops))).length:=fun h=>by rw [if_pos h] at hce;cases hce
 have hlv:=largest_val hlN.1 (show logN n≤65536 by omega)
 have hl14:(zAx (zAr ops)).length≤14040:=by omega
 obtain ⟨hro,hrd⟩:=rec_ok hf hl14
 have hen:=normD_enc ops
 rw [hr,h0]
 have hz:errV F 0=.nilIface:=rfl
 rw [hz]
 by_cases hfit:used+(pcsJ (zAx (zAr ops))).length≤logN n
 ·have hfit2:(recs.flatMap pcsJ).length+(pcsJ (zAx (zAr ops))).length≤logN n:=by rw [← hu];exact hfit
  have hfew:recs.length+1≤100:=by
   have:=recs_few recs
   omega
  have hC2:Comes n r0 (recs++[zAx (zAr ops)]) (zAu r (zAr ops)):=hC.more hro (by rw [hrd]) (by omega) hfew
  obtain ⟨w1,w2,w3,w4,w5,w6⟩:=hW.append h1 h2 ⟨v1,by omega⟩ hC.room0 (zAx (zAr ops)) hl14 hfit2
  obtain ⟨x1,x2,x3,x4,x5⟩:=ap_ways (zAt n) v used (pcsJ (zAx (zAr ops))) 0 D hst.on hst.ok (pcsJ_le _) (by omega)
  rw [← hu] at w1 w2 w3 w4 w5 w6
  have cutd:∀ D2,D2=appW D n v used (zAx (zAr ops))→appE D n v used (zAx (zAr ops))=12→D2.off=true→CutD n (m+1) r (zAu r ops) D2:=fun D2 e q qo=>by
   subst e
   refine ⟨qo,w3,w2,by omega,fun kept torn bytes=>?_⟩
   rcases w6 q kept torn bytes with h|h
   ·exact .inl ⟨r0,recs,v,h,⟨v1,by omega⟩,hC⟩
   ·exact .inr ⟨r0,_,v,h,⟨v1,by omega⟩,by rw [← hrr];exact hC2⟩
  have hund:(apGo (zAt n:Nat) v used (pcsJ (zAx (zAr ops))) 0 D).2.und.length<1073741823:=by
   have hwl:=wsJ_length (zAt n) v (pcsJ (zAx (zAr ops))) (used+0)
   rcases x1 with ⟨_,_,c⟩|⟨_,_,k,c⟩
   ·rw [c,hst.und,List.nil_append,hwl];omega
   ·rw [c,hst.und,List.nil_append,List.length_take,hwl];omega
  rcases x1 with ⟨y1,y2,-⟩|⟨y1,y2,-⟩
  ·have hne1:¬ (apGo (zAt n:Nat) v used (pcsJ (zAx (zAr ops))) 0 D).1=false:=by rw [y1];simp
   have eE:appE D n v used (zAx (zAr ops))=(apGo (zAt n:Nat) v used (pcsJ (zAx (zAr ops))) 0 D).2.flushE:=by unfold appE;rw [if_neg hne1]
   have eW:appW D n v used (zAx (zAr ops))=(apGo (zAt n:Nat) v used (pcsJ (zAx (zAr ops))) 0 D).2.flushD:=by unfold appW;rw [if_neg hne1]
   rcases w1 with ⟨z1,z2⟩|⟨z1,z2⟩
   ·right
    rw [eE] at z1
    rw [eW] at z2 w4
    have hc:=scommitKS_ct (W:=W) (F:=F) (s:=s) (d:=d) (q:=q) (n:=n) (g:=g) (b:=b) hE8 e17 hN h1 (by omega) v used ⟨v1,by omega⟩ hst hn hT A oa oc ops hL (by omega) hne (by omega) (zAx (zAr ops)) hen (by omega) (by omega) (by omega) hfit (by omega) y1 y2 x5 hund z1
    obtain ⟨D3,hD3⟩:∃ D3,D3=(apGo (zAt n:Nat) v used (pcsJ (zAx (zAr ops))) 0 D).2.flushD:=⟨_,rfl⟩
    rw [← hD3] at z2 w4 hc
    clear hD3
    refine hc.to (fun y=>⟨⟨d,q,g,v,used+(pcsJ (zAx (zAr ops))).length,D3,y.1.1,y.1.2.1,y.1.2.2⟩,⟨⟨r0,recs++[zAx (zAr ops)],z2,?_,hC2⟩,v1,by dsimp only;omega,y.2.2⟩,rfl⟩) (fun _=>rfl) (fun y R g' q'=>?_)
    ·rw [List.flatMap_append,List.length_append,← hu]
     simp
    ·unfold stL
     dsimp only
     rw [w4]
     exact q'
   ·left
    rw [eE] at z1
    refine ⟨_,cutd _ rfl (by rw [eE];exact z1) z2,?_⟩
    rw [eW]
    have hc:=scommitKF_ct (W:=W) (F:=F) (s:=s) (d:=d) (q:=q) (n:=n) (g:=g) (b:=b) hE8 e17 hN h1 (by omega) v used ⟨v1,by omega⟩ hst hn hT A oa oc ops hL (by omega) hne (by omega) (zAx (zAr ops)) hen (by omega) (by omega) (by omega) hfit (by omega) y1 y2 x5 hund z1
    exact hc.to (fun y=>(y,some ⟨g,0,none⟩)) (fun _=>rfl) (fun y R g' q'=>q')
  ·left
   have eE:appE D n v used (zAx (zAr ops))=12:=by unfold appE;rw [if_pos y1]
   have eW:appW D n v used (zAx (zAr ops))=(apGo (zAt n:Nat) v used (pcsJ (zAx (zAr ops))) 0 D).2:=by unfold appW;rw [if_pos y1]
   refine ⟨_,cutd _ rfl eE (by rw [eW];exact y2),?_⟩
   rw [eW]
   have hc:=scommitKA_ct (W:=W) (F:=F) (s:=s) (d:=d) (q:=q) (n:=n) (g:=g) (b:=b) hE8 e17 hN h1 (by omega) v used ⟨v1,by omega⟩ hst hn hT A oa oc ops hL (by omega) hne (by omega) (zAx (zAr ops)) hen (by omega) (by omega) (by omega) hfit (by omega) y1
   exact hc.to (fun y=>(y,some ⟨g,0,none⟩)) (fun _=>rfl) (fun y R g' q'=>q')
 ·have hRd:=hW.rd h1 h2 ⟨v1,by omega⟩
  obtain ⟨w1,w2,w3,w4,w5,w6⟩:=hRd.fold h1 (by omega) ⟨v1,by omega⟩ hC.room0 r hroom
  have hul:D.und.length+65536<1073741823:=by rw [hst.und];simp
  obtain ⟨a1,a2,a3,a4,a5⟩:=area_ways hst (zBj n (v+1)) (layA n) (v+1) (zAj r) (by have:=zBn h1 (v+1);omega) (by omega) hroom hlA
  have hh2:(hdrB n (zAj r).length).length≤234:=Nat.le_trans (hdrB_len _ _) (by omega)
  have hA:(areaW D (zBj n (v+1)) (layA n) ((v+1:Nat):Int) (zAj r)).2=fldA D n (v+1) r:=rfl
  have hD:zCh (fldA D n (v+1) r) ((0:Nat):Int) ((v+1:Nat):Int) (hdrB n (zAj r).length)=fldD D n (v+1) r:=rfl
  have hus:used≤logN n:=by rw [hu];exact hfitU
  have gone:foldE D n v r=12→(∀ M,TbOk M a r→Ct Tryz.prog W 50 [.pointer (some ⟨s,0,none⟩)] [stP s d q n (v:Nat) (some ⟨g,0,none⟩) D.life false,DiskP d D,tbP q a b,arP M] (fun _:Unit=>errV F 12) (fun _=>[stP s d q n (v:Nat) (some ⟨g,0,none⟩) D.life true,DiskP d (foldW D n v r),tbP q a b,arP M]))→
   (foldW D n v r).off=true→∃ D2:Dsk,CutD n (m+1) r (zAu r ops) D2∧
   Ct Tryz.prog W 25 [.pointer (some ⟨s,0,none⟩),.slice oa ops.length oc] (A::stL s n ⟨d,q,g,v,used,D,N,a,b⟩) (fun _:{M:List Nd//∀ z ∈ N,z ∈ M} × Option Addr=>errV F 12) (fun y=>A::deadL s n ⟨d,q,g,v,used,D,N,a,b⟩ D2 y):=by
   intro _ hfo hoff
   refine ⟨foldW D n v r,⟨hoff,w3,w2,by omega,fun kept torn bytes=>.inl ?_⟩,?_⟩
   ·rcases w6 kept torn bytes with h|⟨-,h⟩
    ·exact ⟨r,[],v+1,h,⟨by omega,by omega⟩,Comes.nil hC.ris hroom⟩
    ·exact ⟨r0,recs,v,h,⟨v1,by omega⟩,hC⟩
   ·have hc:=scommitWX_ct (W:=W) (F:=F) (s:=s) (d:=d) (q:=q) (n:=n) (g:=g) (b:=b) hE8 e17 hN h1 (by omega) v used ⟨v1,by omega⟩ hst hn hus hT A oa oc ops hL (by omega) hne (by omega) (zAx (zAr ops)) rfl (by omega) (by omega) hfit (by omega) hfo
    exact hc.to (fun y=>(y,some ⟨g,0,none⟩)) (fun _=>rfl) (fun y R g' q'=>q')
  rcases a1 with ⟨e0,s0,-,-⟩|⟨e0,o1,-⟩
  ·rw [hA] at s0 a2
   have eE:foldE D n v r=slotWE (fldA D n (v+1) r) 0 ((v+1:Nat):Int) (hdrB n (zAj r).length):=by unfold foldE;rw [if_neg (by rw [e0];simp)]
   have eW:foldW D n v r=fldD D n (v+1) r:=by unfold foldW;rw [if_neg (by rw [e0];simp)]
   obtain ⟨b1,b2,b3,b4,b5⟩:=slot_ways (D:=fldA D n (v+1) r) s0 0 (v+1) (hdrB n (zAj r).length) (by omega) (by omega) (by omega) hh2
   rw [hD] at b1 b2
   rcases b1 with ⟨g0,g1,-,-⟩|⟨g0,g1,-⟩
   ·have g0:slotWE (fldA D n (v+1) r) 0 ((v+1:Nat):Int) (hdrB n (zAj r).length)=0:=g0
    rw [eE,eW,g0] at w1
    rw [eW] at w2 w3 w4
    have hw:RdO n r [] (v+1) (fldD D n (v+1) r)∧∀ j,j<logN n→getB (((fldD D n (v+1) r).sec (zAt n+j)).drop 248) 8<(zAz (v+1) j:Nat):=by
     rcases w1 with ⟨-,h⟩|⟨h,-⟩
     ·exact h
     ·cases h
    have hfo:∀ M,TbOk M a r→Ct Tryz.prog W 50 [.pointer (some ⟨s,0,none⟩)] [stP s d q n (v:Nat) (some ⟨g,0,none⟩) D.life false,DiskP d D,tbP q a b,arP M] (fun _:Nat=>.nilIface) (fun g2=>[stP s d q n ((v+1:Nat):Int) (some ⟨g2,0,none⟩) D.life false,DiskP d (fldD D n (v+1) r),tbP q a b,arP M,jouU g2 d n (v+1) 0 (fldD D n (v+1) r).life]):=fun M hM=>
     sfold_ct (W:=W) (F:=F) (N:=M) (a:=a) (r:=r) (q:=q) (s:=s) (d:=d) (b:=b) (D:=D) hE8 hN h1 (by omega) v (by omega) (some ⟨g,0,none⟩) D.life false hM hn hroom hul e0 s0.und (by rw [a2,hn]) g0 g1.on w2
    have hW2:=WkO.of hw.1 hw.2
    obtain ⟨D2,hD2⟩:∃ D2,D2=fldD D n (v+1) r:=⟨_,rfl⟩
    rw [← hD2] at hW2 hfo w2 w4
    clear hD2 hw w1 w6
    have hpl:=pcsJ_length (zAx (zAr ops))
    have hcl:=cost_large hlN.1 (by omega) (show ((zAx (zAr ops)).length:Int)≤zBi (logN n:Nat) by omega)
    have hfit2:(([]:List (List UInt8)).flatMap pcsJ).length+(pcsJ (zAx (zAr ops))).length≤logN n:=by
     show 0+_≤_
     omega
    have hC2:Comes n r ([]++[zAx (zAr ops)]) (zAu r (zAr ops)):=(Comes.nil hC.ris hroom).more hro (by rw [hrd]) (by omega) (by simp)
    have hst2:=hW2.still
    obtain ⟨u1,u2,u3,u4,u5,u6⟩:=hW2.append h1 h2 ⟨by omega,by omega⟩ hroom (zAx (zAr ops)) hl14 hfit2
    obtain ⟨x1,x2,x3,x4,x5⟩:=ap_ways (zAt n) (v+1) 0 (pcsJ (zAx (zAr ops))) 0 D2 hst2.on hst2.ok (pcsJ_le _) (by rw [w2];omega)
    have hu0:(([]:List (List UInt8)).flatMap pcsJ).length=0:=rfl
    rw [hu0] at u1 u2 u3 u4 u5 u6
    have cutd:∀ D4,D4=appW D2 n (v+1) 0 (zAx (zAr ops))→appE D2 n (v+1) 0 (zAx (zAr ops))=12→D4.off=true→CutD n (m+1) r (zAu r ops) D4:=fun D4 e q qo=>by
     subst e
     refine ⟨qo,u3,u2,by omega,fun kept torn bytes=>?_⟩
     rcases u6 q kept torn bytes with h|h
     ·exact .inl ⟨r,[],v+1,h,⟨by omega,by omega⟩,Comes.nil hC.ris hroom⟩
     ·exact .inr ⟨r,_,v+1,h,⟨by omega,by omega⟩,by rw [← hrr];exact hC2⟩
    have hund:(apGo (zAt n:Nat) (v+1) 0 (pcsJ (zAx (zAr ops))) 0 D2).2.und.length<1073741823:=by
     have hwl:=wsJ_length (zAt n) (v+1) (pcsJ (zAx (zAr ops))) (0+0)
     rcases x1 with ⟨_,_,c⟩|⟨_,_,k,c⟩
     ·rw [c,hst2.und,List.nil_append,hwl];omega
     ·rw [c,hst2.und,List.nil_append,List.length_take,hwl];omega
    rcases x1 with ⟨y1,y2,-⟩|⟨y1,y2,-⟩
    ·have hne1:¬ (apGo (zAt n:Nat) (v+1) 0 (pcsJ (zAx (zAr ops))) 0 D2).1=false:=by rw [y1];simp
     have eE2:appE D2 n (v+1) 0 (zAx (zAr ops))=(apGo (zAt n:Nat) (v+1) 0 (pcsJ (zAx (zAr ops))) 0 D2).2.flushE:=by unfold appE;rw [if_neg hne1]
     have eW2:appW D2 n (v+1) 0 (zAx (zAr ops))=(apGo (zAt n:Nat) (v+1) 0 (pcsJ (zAx (zAr ops))) 0 D2).2.flushD:=by unfold appW;rw [if_neg hne1]
     rcases u1 with ⟨z1,z2⟩|⟨z1,z2⟩
     ·right
      rw [eE2] at z1
      rw [eW2] at z2 u4
      have hc:=scommitWS_ct (W:=W) (F:=F) (s:=s) (d:=d) (q:=q) (n:=n) (g:=g) (b:=b) hE8 e17 hN h1 (by omega) v used ⟨v1,by omega⟩ hst hn hus hT A oa oc ops hL (by omega) hne (by omega) (zAx (zAr ops)) rfl (by omega) (by omega) hfit (by omega) hfo hst2 w2 w4 y1 y2 x5 hund z1
      obtain ⟨D3,hD3⟩:∃ D3,D3=(apGo (zAt n:Nat) (v+1) 0 (pcsJ (zAx (zAr ops))) 0 D2).2.flushD:=⟨_,rfl⟩
      rw [← hD3] at z2 u4 hc
      clear hD3
      refine hc.to (fun y=>⟨⟨d,q,y.1,v+1,(pcsJ (zAx (zAr ops))).length,D3,y.2.1.1,y.2.1.2.1,y.2.1.2.2⟩,⟨⟨r,_,z2,by simp,hC2⟩,by dsimp only;omega,by dsimp only;omega,y.2.2.2⟩,rfl⟩) (fun _=>rfl) (fun y R g' q'=>?_)
      unfold stL
      dsimp only
      rw [u4,w4]
      rw [w4] at q'
      exact q'
     ·left
      rw [eE2] at z1
      refine ⟨_,cutd _ rfl (by rw [eE2];exact z1) z2,?_⟩
      rw [eW2]
      exact scommitWF_ct (W:=W) (F:=F) (s:=s) (d:=d) (q:=q) (n:=n) (g:=g) (b:=b) hE8 e17 hN h1 (by omega) v used ⟨v1,by omega⟩ hst hn hus hT A oa oc ops hL (by omega) hne (by omega) (zAx (zAr ops)) rfl (by omega) (by omega) hfit (by omega) hfo hst2 w2 w4 y1 y2 x5 hund z1
    ·left
     have eE2:appE D2 n (v+1) 0 (zAx (zAr ops))=12:=by unfold appE;rw [if_pos y1]
     have eW2:appW D2 n (v+1) 0 (zAx (zAr ops))=(apGo (zAt n:Nat) (v+1) 0 (pcsJ (zAx (zAr ops))) 0 D2).2:=by unfold appW;rw [if_pos y1]
     refine ⟨_,cutd _ rfl eE2 (by rw [eW2];exact y2),?_⟩
     rw [eW2]
     exact scommitWA_ct (W:=W) (F:=F) (s:=s) (d:=d) (q:=q) (n:=n) (g:=g) (b:=b) hE8 e17 hN h1 (by omega) v used ⟨v1,by omega⟩ hst hn hus hT A oa oc ops hL (by omega) hne (by omega) (zAx (zAr ops)) rfl (by omega) (by omega) hfit (by omega) hfo hst2 w2 w4 y1
   ·left
    have g0:slotWE (fldA D n (v+1) r) 0 ((v+1:Nat):Int) (hdrB n (zAj r).length)=12:=g0
    refine gone (by rw [eE,g0]) (fun M hM=>?_) (by rw [eW];exact g1)
    rw [eW]
    exact sfoldS_ct (W:=W) (F:=F) (N:=M) (a:=a) (r:=r) (q:=q) (s:=s) (d:=d) (b:=b) (D:=D) hE8 hN h1 (by omega) v (by omega) (some ⟨g,0,none⟩) D.life false hM hn hroom hul e0 s0.und (by rw [a2,hn]) g0
  ·left
   have eE:foldE D n v r=12:=by unfold foldE;rw [if_pos (by rw [e0];simp),e0]
   have eW:foldW D n v r=fldA D n (v+1) r:=by unfold foldW;rw [if_pos (by rw [e0];simp)]
   refine gone eE (fun M hM=>?_) (by rw [eW];exact o1)
   rw [eW]
   exact sfoldA_ct (W:=W) (F:=F) (N:=M) (a:=a) (r:=r) (q:=q) (s:=s) (d:=d) (b:=b) (D:=D) hE8 hN h1 (by omega) v (by omega) (some ⟨g,0,none⟩) D.life false hM hn hroom hul e0
end
end Go.Proofs.YtnkhohfbijkohaaGreatDoor
namespace Go.Proofs.YtnkhohfbijkohaaGreatDoor
open Go Go.RowKit
section
variable {W:World} {F:Nat→Addr} {n m s d q:Nat} {r:Rows} {D:Dsk}
instance fn_scompact:FnIs Tryz.prog 26:=⟨by kernel_rfl⟩
theorem sdownT_ct (v:Int) (lg:Option Addr) (life:Int) (dead:Bool) (h:zCg D life dead=true):Ct Tryz.prog W 61 [.pointer (some ⟨s,0,none⟩)] [stP s d q n v lg life dead,DiskP d D] (fun _:Unit=>.bool true) (fun _=>[stP s d q n v lg life true,DiskP d D]):=by
 have c2:Ct Tryz.prog W 115 [.pointer (some ⟨d,0,none⟩)] [DiskP d D] (fun _:Unit=>.int .i64 D.life) (fun _=>[DiskP d D]):=life_ct
 cases ho:D.off with
 |true=>
  have c1:Ct Tryz.prog W 44 [.pointer (some ⟨d,0,none⟩)] [DiskP d D] (fun _:Unit=>.bool true) (fun _=>[DiskP d D]):=by rw [← ho];exact off_ct
  refine Ct.enter Tryz.func61 rfl Tryz.ntmps61 (by simp) (fun R=>?_)
  repeat' (first|(refine is_fo ?_;(refine zCa (X:=Unit) xE c1 xP rfl ?_))|(refine is_ro ?_;(refine zCa (X:=Unit) xE c1 xP rfl ?_))|(refine is_fo ?_;(refine zBs (X:=Unit) rfl rfl xE c1 xP rfl ?_))|(refine is_ro ?_;(refine zBs (X:=Unit) rfl rfl xE c1 xP rfl ?_))|(refine is_fo ?_;(refine zCa (X:=Unit) xE c2 xP rfl ?_))|(refine is_ro ?_;(refine zCa (X:=Unit) xE c2 xP rfl ?_))|(refine is_fo ?_;(refine zBs (X:=Unit) rfl rfl xE c2 xP rfl ?_))|(refine is_ro ?_;(refine zBs (X:=Unit) rfl rfl xE c2 xP rfl ?_))|refine xst ?_|(refine xsa ?_;intro _)|(refine xsb ?_ ?_ <;>intro _<;>try (exfalso;omega))|refine xsc ?_|(refine zAb (id:=1) plTGM5 (by kernel_rfl) (by kernel_rfl) ?_)|refine zAn ?_ ?_|refine zAm rfl rfl rfl rfl rfl ?_ ?_|refine zAf ?_ ?_|exact Rech.nil|fail)
  all_goals (exact xdn ())
 |false=>
  have c1:Ct Tryz.prog W 44 [.pointer (some ⟨d,0,none⟩)] [DiskP d D] (fun _:Unit=>.bool false) (fun _=>[DiskP d D]):=by rw [← ho];exact off_ct
  by_cases hl:D.life=life
  ·have hd:dead=true:=by unfold zCg at h;rw [ho,hl] at h;simpa using h
   subst hd
   refine Ct.enter Tryz.func61 rfl Tryz.ntmps61 (by simp) (fun R=>?_)
   repeat' (first|(refine zBh ?_;refine zAc (zCb rfl rfl hl) ?_)|(refine is_fo ?_;(refine zCa (X:=Unit) xE c1 xP rfl ?_))|(refine is_ro ?_;(refine zCa (X:=Unit) xE c1 xP rfl ?_))|(refine is_fo ?_;(refine zBs (X:=Unit) rfl rfl xE c1 xP rfl ?_))|(refine is_ro ?_;(refine zBs (X:=Unit) rfl rfl xE c1 xP rfl ?_))|(refine is_fo ?_;(refine zCa (X:=Unit) xE c2 xP rfl ?_))|(refine is_ro ?_;(refine zCa (X:=Unit) xE c2 xP rfl ?_))|(refine is_fo ?_;(refine zBs (X:=Unit) rfl rfl xE c2 xP rfl ?_))|(refine is_ro ?_;(refine zBs (X:=Unit) rfl rfl xE c2 xP rfl ?_))|refine xst ?_|(refine xsa ?_;intro _)|(refine xsb ?_ ?_ <;>intro _<;>try (exfalso;omega))|refine xsc ?_|(refine zAb (id:=1) plTGM5 (by kernel_rfl) (by kernel_rfl) ?_)|refine zAn ?_ ?_|refine zAm rfl rfl rfl rfl rfl ?_ ?_|refine zAf ?_ ?_|exact Rech.nil|fail)
   all_goals (exact xdn ())
  ·have ql:decide (D.life≠life)=true:=decide_eq_true hl
   refine Ct.enter Tryz.func61 rfl Tryz.ntmps61 (by simp) (fun R=>?_)
   repeat' (first|(refine zBh ?_;refine zAc (Ev_neqI_q rfl rfl ql) ?_)|(refine is_fo ?_;(refine zCa (X:=Unit) xE c1 xP rfl ?_))|(refine is_ro ?_;(refine zCa (X:=Unit) xE c1 xP rfl ?_))|(refine is_fo ?_;(refine zBs (X:=Unit) rfl rfl xE c1 xP rfl ?_))|(refine is_ro ?_;(refine zBs (X:=Unit) rfl rfl xE c1 xP rfl ?_))|(refine is_fo ?_;(refine zCa (X:=Unit) xE c2 xP rfl ?_))|(refine is_ro ?_;(refine zCa (X:=Unit) xE c2 xP rfl ?_))|(refine is_fo ?_;(refine zBs (X:=Unit) rfl rfl xE c2 xP rfl ?_))|(refine is_ro ?_;(refine zBs (X:=Unit) rfl rfl xE c2 xP rfl ?_))|refine xst ?_|(refine xsa ?_;intro _)|(refine xsb ?_ ?_ <;>intro _<;>try (exfalso;omega))|refine xsc ?_|(refine zAb (id:=1) plTGM5 (by kernel_rfl) (by kernel_rfl) ?_)|refine zAn ?_ ?_|refine zAm rfl rfl rfl rfl rfl ?_ ?_|refine zAf ?_ ?_|exact Rech.nil|fail)
   all_goals (exact xdn ())
theorem scommitD_ct (hE8:ErrsOn L8 W F) (v:Int) (lg:Option Addr) (life:Int) (dead:Bool) (h:zCg D life dead=true) (A:SP) (oa:Option Addr) (ol oc:Nat):Ct Tryz.prog W 25 [.pointer (some ⟨s,0,none⟩),.slice oa ol oc] [A,stP s d q n v lg life dead,DiskP d D] (fun _:Unit=>errV F 12) (fun _=>[A,stP s d q n v lg life true,DiskP d D]):=by
 have e12:W.cell? ⟨2,0,none⟩=some (errV F 12):=hE8.at_ 12 (by decide)
 have cd:=sdownT_ct (W:=W) (s:=s) (d:=d) (q:=q) (n:=n) v lg life dead h
 refine Ct.enter Tryz.func25 rfl Tryz.ntmps25 (by simp) (fun R=>?_)
 repeat' (first|(refine zAd ?_;refine zAa xE cd xP rfl (fun _=>?_))|(refine zAh ?_;refine zAc (zAp rfl e12) ?_)|refine xst ?_|(refine xsa ?_;intro _)|(refine xsb ?_ ?_ <;>intro _<;>try (exfalso;omega))|refine xsc ?_|fail)
 all_goals (exact xdn ())
theorem scompactD_ct (hE8:ErrsOn L8 W F) (v:Int) (lg:Option Addr) (life:Int) (dead:Bool) (h:zCg D life dead=true):Ct Tryz.prog W 26 [.pointer (some ⟨s,0,none⟩)] [stP s d q n v lg life dead,DiskP d D] (fun _:Unit=>errV F 12) (fun _=>[stP s d q n v lg life true,DiskP d D]):=by
 have e12:W.cell? ⟨2,0,none⟩=some (errV F 12):=hE8.at_ 12 (by decide)
 have cd:=sdownT_ct (W:=W) (s:=s) (d:=d) (q:=q) (n:=n) v lg life dead h
 refine Ct.enter Tryz.func26 rfl Tryz.ntmps26 (by simp) (fun R=>?_)
 repeat' (first|(refine zAd ?_;refine zAa xE cd xP rfl (fun _=>?_))|(refine zAh ?_;refine zAc (zAp rfl e12) ?_)|refine xst ?_|(refine xsa ?_;intro _)|(refine xsb ?_ ?_ <;>intro _<;>try (exfalso;omega))|refine xsc ?_|fail)
 all_goals (exact xdn ())
end
end Go.Proofs.YtnkhohfbijkohaaGreatDoor
namespace Go.Proofs.YtnkhohfbijkohaaGreatDoor
open Go Go.RowKit
section
variable {W:World} {F:Nat→Addr} {n m s:Nat} {r:Rows}
theorem scompactX_ct {d q g v:Nat} {D D2:Dsk} {N:List Nd} {a:Option Addr} {b:Int} (hst:Still D)
 (hfo:Ct Tryz.prog W 50 [.pointer (some ⟨s,0,none⟩)] [stP s d q n (v:Nat) (some ⟨g,0,none⟩) D.life false,DiskP d D,tbP q a b,arP N] (fun _:Unit=>errV F 12) (fun _=>[stP s d q n (v:Nat) (some ⟨g,0,none⟩) D.life true,DiskP d D2,tbP q a b,arP N])) :
 Ct Tryz.prog W 26 [.pointer (some ⟨s,0,none⟩)] [stP s d q n (v:Nat) (some ⟨g,0,none⟩) D.life false,DiskP d D,tbP q a b,arP N] (fun _:Unit=>errV F 12) (fun _=>[stP s d q n (v:Nat) (some ⟨g,0,none⟩) D.life true,DiskP d D2,tbP q a b,arP N]):=by
 have hdn:zCg D D.life false=false:=by unfold zCg;rw [hst.on];simp
 have cdn:=sup_ct (W:=W) (s:=s) (d:=d) (q:=q) (n:=n) (v:Nat) (some ⟨g,0,none⟩) D.life hdn
 refine Ct.enter Tryz.func26 rfl Tryz.ntmps26 (by simp) (fun R=>?_)
 repeat' (first|(refine zAd ?_;first|(refine zAa xE hfo xP rfl (fun x=>?_))|(refine zAa xE cdn xP rfl (fun _=>?_)))|refine xst ?_|(refine xsa ?_;intro _)|(refine xsb ?_ ?_ <;>intro _<;>try (exfalso;omega))|refine xsc ?_|fail)
 all_goals (exact xdn ())
theorem scompactS_ct {d q g v:Nat} {D D2:Dsk} {N:List Nd} {a:Option Addr} {b:Int} (hst:Still D)
 (hfo:Ct Tryz.prog W 50 [.pointer (some ⟨s,0,none⟩)] [stP s d q n (v:Nat) (some ⟨g,0,none⟩) D.life false,DiskP d D,tbP q a b,arP N] (fun _:Nat=>.nilIface) (fun g2=>[stP s d q n ((v+1:Nat):Int) (some ⟨g2,0,none⟩) D.life false,DiskP d D2,tbP q a b,arP N,jouP g2 d n (v+1) D2.life])) :
 Ct Tryz.prog W 26 [.pointer (some ⟨s,0,none⟩)] [stP s d q n (v:Nat) (some ⟨g,0,none⟩) D.life false,DiskP d D,tbP q a b,arP N] (fun _:Nat=>.nilIface) (fun g2=>[stP s d q n ((v+1:Nat):Int) (some ⟨g2,0,none⟩) D.life false,DiskP d D2,tbP q a b,arP N,jouP g2 d n (v+1) D2.life]):=by
 have hdn:zCg D D.life false=false:=by unfold zCg;rw [hst.on];simp
 have cdn:=sup_ct (W:=W) (s:=s) (d:=d) (q:=q) (n:=n) (v:Nat) (some ⟨g,0,none⟩) D.life hdn
 refine Ct.enter Tryz.func26 rfl Tryz.ntmps26 (by simp) (fun R=>?_)
 repeat' (first|(refine zAd ?_;first|(refine zAa xE hfo xP rfl (fun x=>?_))|(refine zAa xE cdn xP rfl (fun _=>?_)))|refine xst ?_|(refine xsa ?_;intro _)|(refine xsb ?_ ?_ <;>intro _<;>try (exfalso;omega))|refine xsc ?_|fail)
 all_goals (exact xdn x)
theorem scompactA (hE8:ErrsOn L8 W F) (hN:NibAt W) (h1:64≤n) (h2:n≤176) (hm:m+2≤1099511627776) (x:StH) (hS:StA n m r x) :
 (∃ D2:Dsk,CutD n (m+1) r r D2∧
  Ct Tryz.prog W 26 [.pointer (some ⟨s,0,none⟩)] (stL s n x) (fun _:{M:List Nd//∀ z ∈ x.N,z ∈ M} × Option Addr=>errV F 12) (fun y=>deadL s n x D2 y))∨
 Ct Tryz.prog W 26 [.pointer (some ⟨s,0,none⟩)] (stL s n x) (fun _:{y:StH//StA n (m+1) r y∧y.d=x.d}=>.nilIface) (fun y=>stL s n y.1):=by
 obtain ⟨d,q,g,v,used,D,N,a,b⟩:=x
 obtain ⟨⟨r0,recs,hW,hu,hC⟩,v1,vm,hT⟩:=hS
 dsimp only at hW hu v1 vm hT ⊢
 have hlA:layA n≤65536:=by unfold layA;omega
 have hroom:=hC.room
 have hst:=hW.still
 have hn:=hW.nn
 have hRd:=hW.rd h1 h2 ⟨v1,by omega⟩
 obtain ⟨w1,w2,w3,w4,w5,w6⟩:=hRd.fold h1 (by omega) ⟨v1,by omega⟩ hC.room0 r hroom
 have hul:D.und.length+65536<1073741823:=by rw [hst.und];simp
 obtain ⟨a1,a2,a3,a4,a5⟩:=area_ways hst (zBj n (v+1)) (layA n) (v+1) (zAj r) (by have:=zBn h1 (v+1);omega) (by omega) hroom hlA
 have hh2:(hdrB n (zAj r).length).length≤234:=Nat.le_trans (hdrB_len _ _) (by omega)
 have hA:(areaW D (zBj n (v+1)) (layA n) ((v+1:Nat):Int) (zAj r)).2=fldA D n (v+1) r:=rfl
 have hD:zCh (fldA D n (v+1) r) ((0:Nat):Int) ((v+1:Nat):Int) (hdrB n (zAj r).length)=fldD D n (v+1) r:=rfl
 have gone:Ct Tryz.prog W 50 [.pointer (some ⟨s,0,none⟩)] [stP s d q n (v:Nat) (some ⟨g,0,none⟩) D.life false,DiskP d D,tbP q a b,arP N] (fun _:Unit=>errV F 12) (fun _=>[stP s d q n (v:Nat) (some ⟨g,0,none⟩) D.life true,DiskP d (foldW D n v r),tbP q a b,arP N])→
  (foldW D n v r).off=true→∃ D2:Dsk,CutD n (m+1) r r D2∧
  Ct Tryz.prog W 26 [.pointer (some ⟨s,0,none⟩)] (stL s n ⟨d,q,g,v,used,D,N,a,b⟩) (fun _:{M:List Nd//∀ z ∈ N,z ∈ M} × Option Addr=>errV F 12) (fun y=>deadL s n ⟨d,q,g,v,used,D,N,a,b⟩ D2 y):=by
  intro hfo hoff
  refine ⟨foldW D n v r,⟨hoff,w3,w2,by omega,fun kept torn bytes=>.inl ?_⟩,?_⟩
  ·rcases w6 kept torn bytes with h|⟨-,h⟩
   ·exact ⟨r,[],v+1,h,⟨by omega,by omega⟩,Comes.nil hC.ris hroom⟩
   ·exact ⟨r0,recs,v,h,⟨v1,by omega⟩,hC⟩
  ·refine ((scompactX_ct (W:=W) (s:=s) (d:=d) (q:=q) (g:=g) (v:=v) (n:=n) hst hfo).conv (A':=stL s n ⟨d,q,g,v,used,D,N,a,b⟩) (fun R=>(xN)) (fun _ R gg qq=>qq)).to (fun _=>(⟨N,fun _ h=>h⟩,some ⟨g,0,none⟩)) (fun _=>rfl) (fun _ R gg qq=>qq)
 rcases a1 with ⟨e0,s0,-,-⟩|⟨e0,o1,-⟩
 ·rw [hA] at s0 a2
  have eE:foldE D n v r=slotWE (fldA D n (v+1) r) 0 ((v+1:Nat):Int) (hdrB n (zAj r).length):=by unfold foldE;rw [if_neg (by rw [e0];simp)]
  have eW:foldW D n v r=fldD D n (v+1) r:=by unfold foldW;rw [if_neg (by rw [e0];simp)]
  obtain ⟨b1,b2,b3,b4,b5⟩:=slot_ways (D:=fldA D n (v+1) r) s0 0 (v+1) (hdrB n (zAj r).length) (by omega) (by omega) (by omega) hh2
  rw [hD] at b1 b2
  rcases b1 with ⟨g0,g1,-,-⟩|⟨g0,g1,-⟩
  ·right
   have g0:slotWE (fldA D n (v+1) r) 0 ((v+1:Nat):Int) (hdrB n (zAj r).length)=0:=g0
   rw [eE,eW,g0] at w1
   rw [eW] at w2 w3 w4
   have hw:RdO n r [] (v+1) (fldD D n (v+1) r)∧∀ j,j<logN n→getB (((fldD D n (v+1) r).sec (zAt n+j)).drop 248) 8<(zAz (v+1) j:Nat):=by
    rcases w1 with ⟨-,h⟩|⟨h,-⟩
    ·exact h
    ·cases h
   have hfo:=sfold_ct (W:=W) (F:=F) (N:=N) (a:=a) (r:=r) (q:=q) (s:=s) (d:=d) (b:=b) (D:=D) hE8 hN h1 (by omega) v (by omega) (some ⟨g,0,none⟩) D.life false hT hn hroom hul e0 s0.und (by rw [a2,hn]) g0 g1.on w2
   have hc:=(scompactS_ct (W:=W) (s:=s) (d:=d) (q:=q) (g:=g) (v:=v) (n:=n) hst hfo).conv (A':=stL s n ⟨d,q,g,v,used,D,N,a,b⟩) (fun R=>(xN)) (fun _ R gg qq=>qq)
   refine hc.to (fun g2=>⟨⟨d,q,g2,v+1,0,fldD D n (v+1) r,N,a,b⟩,⟨⟨r,[],WkO.of hw.1 hw.2,rfl,Comes.nil hC.ris hroom⟩,by dsimp only;omega,by dsimp only;omega,hT⟩,rfl⟩) (fun _=>rfl) (fun g2 R gg qq=>?_)
   unfold stL
   dsimp only
   rw [w4]
   rw [w4] at qq
   exact qq
  ·left
   have g0:slotWE (fldA D n (v+1) r) 0 ((v+1:Nat):Int) (hdrB n (zAj r).length)=12:=g0
   refine gone ?_ (by rw [eW];exact g1)
   rw [eW]
   exact sfoldS_ct (W:=W) (F:=F) (N:=N) (a:=a) (r:=r) (q:=q) (s:=s) (d:=d) (b:=b) (D:=D) hE8 hN h1 (by omega) v (by omega) (some ⟨g,0,none⟩) D.life false hT hn hroom hul e0 s0.und (by rw [a2,hn]) g0
 ·left
  have eW:foldW D n v r=fldA D n (v+1) r:=by unfold foldW;rw [if_pos (by rw [e0];simp)]
  refine gone ?_ (by rw [eW];exact o1)
  rw [eW]
  exact sfoldA_ct (W:=W) (F:=F) (N:=N) (a:=a) (r:=r) (q:=q) (s:=s) (d:=d) (b:=b) (D:=D) hE8 hN h1 (by omega) v (by omega) (some ⟨g,0,none⟩) D.life false hT hn hroom hul e0
end
end Go.Proofs.YtnkhohfbijkohaaGreatDoor
namespace Go.Proofs.YtnkhohfbijkohaaGreatDoor
open Go Go.RowKit
structure CutT where
 arm:Int
 ka:Option Addr
 kc:Nat
 kept:List Bool
 torn:Int
 bytes:Int
def cutC (c:CutT):List Value:=[.int .i64 c.arm,.slice c.ka c.kept.length c.kc,.int .i64 c.torn,.int .i64 c.bytes]
theorem cutC_ok:EncOk cutC 4:=⟨fun _=>rfl,fun x=>by unfold cutC;exact xO,by omega⟩
theorem OpA.arm {n m:Nat} {r:Rows} {D:Dsk} (h:OpA n m r D) (h1:64≤n) (k:Int) (hk:k≤9223372036854775807):OpA n m r (D.arm k):=by
 obtain ⟨r0,recs,v,a,b,c⟩:=h
 exact ⟨r0,recs,v,a.arm h1 k hk,b,c⟩
theorem OpA.still {n m:Nat} {r:Rows} {D:Dsk} (h:OpA n m r D):Still D:=by
 obtain ⟨r0,recs,v,a,b,c⟩:=h
 exact a.still
theorem StA.crash {n m:Nat} {r:Rows} {x:StH} (h:StA n m r x) (h1:64≤n) (h2:n≤176) (hm:m+1≤1099511627776) (kept:List Bool) (torn bytes:Int):OpA n m r (x.D.crash kept torn bytes):=by
 obtain ⟨⟨r0,recs,a,b,c⟩,v1,vm,-⟩:=h
 exact ⟨r0,recs,x.v,a.crash h1 h2 ⟨v1,by omega⟩ kept torn bytes,⟨v1,vm⟩,c⟩
section
variable {W:World} {F:Nat→Addr} {d n:Nat} {r:Rows}
instance fn_opened13:FnIs Tryz.prog 22:=⟨by kernel_rfl⟩
set_option maxRecDepth 100000 in
theorem opened13_ct (hE:ErrsAt W F) (hN:NibAt W) (hg:gB≤W.heap.size) (h1:64≤n) (h2:n≤176) {m:Nat} {D0:Dsk} (hO:OpA n m r D0) (B:SP) (b:Option Addr) (c:Nat) (cuts:List CutT) (hB:Lv W cutC 4 B b cuts) (hl:cuts.length≤1048576) (hm:m+cuts.length+2≤1099511627776)
 (hx:∀ t ∈ cuts,BoolsAt W (.slice t.ka t.kept.length t.kc) t.kept∧t.arm≤9223372036854775807) :
 Ct Tryz.prog W 22 [.pointer (some ⟨d,0,none⟩),.slice b cuts.length c] [B,DiskP d D0] (fun y:Nat × {x:StH//StA n (m+cuts.length+1) r x∧x.d=d}=>.pointer (some ⟨y.1,0,none⟩)) (fun y=>B::stL y.1 n y.2.1):=by
 have hE16:ErrsOn L16 W F:=hE.to16
 have hE8:ErrsOn L8 W F:=hE16.to8
 have c12:=numA_ct hE hg 12 (by omega)
 have n12:=errNe (F:=F) (e:=12) (by omega)
 refine Ct.enter Tryz.func22 rfl Tryz.ntmps22 (by simp) (fun R=>?_)
 repeat' (first|refine xst ?_|(refine xsa ?_;intro _)|(refine xsb ?_ ?_ <;>intro _<;>try (exfalso;omega))|refine xsc ?_|fail)
 refine zBz (fun x:{x:Nat × Dsk//x.1≤cuts.length∧OpA n (m+x.1) r x.2}=>[(0,.pointer (some ⟨d,0,none⟩)),(11,.slice b cuts.length c),(12,.int .i64 (cuts.length:Nat)),(13,.int .i64 (x.1.1:Nat))])
  (fun x=>[B,DiskP d x.1.2]++R) (fun x=>cuts.length-x.1.1) ⟨(0,D0),Nat.zero_le _,hO⟩ xB (xN) (fun ⟨(i,D),hi,hD⟩=>?_)
 dsimp only at hi hD ⊢
 by_cases hlt:i<cuts.length
 ·have ql:decide ((i:Int)<(cuts.length:Nat))=true:=decide_eq_true (by omega)
  obtain ⟨t,ht⟩:∃ s,cuts[i]? = some s:=⟨_,List.getElem?_eq_getElem hlt⟩
  obtain ⟨hk,hka⟩:=hx t (List.mem_of_getElem? ht)
  obtain ⟨ta,ka,kc,kept,torn,bytes⟩:=t
  dsimp only at hk hka
  refine KJ.lvSome hB xS (by omega) (fun ba oa hab=>?_)
  subst hab
  have ho1:oa+Int.toNat (i:Int)*4=oa+i*4:=by rw [Int.toNat_natCast]
  obtain ⟨k,hkk⟩:∃ k,max ta 0=k:=⟨_,rfl⟩
  have hk9:k≤9223372036854775807:=by omega
  have ca:=arm_ct (W:=W) (p:=d) (D:=D) k hk9
  have hDa:=hD.arm h1 k hk9
  obtain ⟨D1,hD1⟩:∃ D1,D1=D.arm k:=⟨_,rfl⟩
  rw [← hD1] at ca hDa
  clear hD1
  rcases sopenA (W:=W) (F:=F) (d:=d) hE16 hE8 hN h1 h2 (by omega) hDa with ⟨D2,⟨-,-,-,-,u1,u2⟩,co⟩|co
  ·have cr:=crash_old (W:=W) (p:=d) (D:=D2) torn bytes hk (by omega)
   repeat' (first|(refine zBf ?_;refine zBb rfl (fun g6=>?_))|(refine zAd ?_;first|(refine KJ_call0 xE cr xP (fun _=>?_))|(refine zAa xE cr xP rfl (fun _=>?_))|(refine zAa xE c12 xP rfl (fun _=>?_))|(refine zAa xE co xP rfl (fun _=>?_))|(refine KJ_call0 xE ca xP (fun _=>?_))|(refine zAa xE ca xP rfl (fun _=>?_)))|(refine zAh ?_;refine zAc (zCc cutC_ok hB rfl rfl xS ho1 ht) ?_)|(refine ek_max ?_;refine zAc (Ev_max_w rfl rfl hkk) ?_)|(refine zBk ?_;refine zAc (zAi (r:=((i+1:Nat):Int)) rfl rfl (by omega) (by omega)) ?_)|(refine zBe ?_;refine zAc (Ev_eqlNil rfl n12) ?_)|(refine zBh ?_;first|refine zAc (Ev_neqI_q (q:=false) rfl rfl rfl) ?_|refine zAc (Ev_neqNil rfl n12) ?_)|(refine zAs ?_;refine zAc (zAe rfl rfl ql) ?_)|refine xst ?_|(refine xsa ?_;intro _)|(refine xsb ?_ ?_ <;>intro _<;>try (exfalso;omega))|refine xsc ?_|fail)
   all_goals refine zBd ⟨(i+1,D2.crash kept torn bytes),hlt,u2 kept torn bytes⟩ (by show cuts.length-(i+1)<cuts.length-i;omega) xB (xN)
  ·have cr:=fun (D:Dsk) (hu:D.und.length<1073741824)=>crash_old (W:=W) (p:=d) (D:=D) torn bytes hk hu
   repeat' (first|(refine zBf ?_;refine zBb rfl (fun g6=>?_))|(refine zAd ?_;first|(refine KJ_call0 xE (cr DD hun) xP (fun _=>?_))|(refine zAa xE (cr DD hun) xP rfl (fun _=>?_))|(refine zAa xE co xP rfl (fun y=>?_);obtain ⟨s,⟨⟨xd,q,g,v,used,DD,N,ta2,tb⟩,hI,hd⟩⟩:=y;dsimp only at hd ⊢;subst hd;have hcr:=hI.crash h1 h2 (by omega) kept torn bytes;dsimp only at hcr;have hun:DD.und.length<1073741824:=(by obtain ⟨⟨_,_,w,_⟩,-⟩:=hI;have:=w.still.und;dsimp only at this;rw [this];simp))|(refine KJ_call0 xE ca xP (fun _=>?_))|(refine zAa xE ca xP rfl (fun _=>?_)))|(refine zAh ?_;refine zAc (zCc cutC_ok hB rfl rfl xS ho1 ht) ?_)|(refine ek_max ?_;refine zAc (Ev_max_w rfl rfl hkk) ?_)|(refine zBk ?_;refine zAc (zAi (r:=((i+1:Nat):Int)) rfl rfl (by omega) (by omega)) ?_)|(refine zAs ?_;refine zAc (zAe rfl rfl ql) ?_)|refine xst ?_|(refine xsa ?_;intro _)|(refine xsb ?_ ?_ <;>intro _<;>try (exfalso;omega))|refine xsc ?_|fail)
   all_goals refine zBd ⟨(i+1,DD.crash kept torn bytes),hlt,hcr⟩ (by show cuts.length-(i+1)<cuts.length-i;omega) xB (xN)
 have ql:decide ((i:Int)<(cuts.length:Nat))=false:=decide_eq_false (by omega)
 obtain rfl:i=cuts.length:=by omega
 have ca:=arm_ct (W:=W) (p:=d) (D:=D) (-1) (by omega)
 have hDa:=hD.arm h1 (-1) (by omega)
 have hcalm:Calm (D.arm (-1)):=⟨hD.still.on,rfl⟩
 obtain ⟨D1,hD1⟩:∃ D1,D1=D.arm (-1):=⟨_,rfl⟩
 rw [← hD1] at ca hDa hcalm
 clear hD1
 rcases sopenA (W:=W) (F:=F) (d:=d) hE16 hE8 hN h1 h2 (by omega) hDa with ⟨D2,⟨nc,-⟩,-⟩|co
 ·exact absurd hcalm nc
 repeat' (first|(refine zAd ?_;first|(refine zAa xE co xP rfl (fun y=>?_))|(refine KJ_call0 xE ca xP (fun _=>?_))|(refine zAa xE ca xP rfl (fun _=>?_)))|(refine zAs ?_;refine zAc (zAe rfl rfl ql) ?_)|refine xst ?_|(refine xsa ?_;intro _)|(refine xsb ?_ ?_ <;>intro _<;>try (exfalso;omega))|refine xsc ?_|fail)
 all_goals (exact xdn y)
end
end Go.Proofs.YtnkhohfbijkohaaGreatDoor
namespace Go.Proofs.YtnkhohfbijkohaaGreatDoor
open Go Go.RowKit
theorem RdO.first {n:Nat} (h1:64≤n) (h2:n≤65536) (r:Rows) (hr:(zAj r).length≤234*layA n):RdO n r [] 1 (fmtD n r):=by
 have hR:=Ready.blank h1 h2
 obtain ⟨g1,g2,g3,g4,g5,g6,g7,g8⟩:=hR.fold r h1 h2 (by omega) hr
 obtain ⟨f1,f2,f3,f4⟩:=zBn h1 1
 obtain ⟨a1,a2,a3,a4,a5,a6⟩:=rest_area hR.rest (zBj n 1) (layA n) 1 (zAj r) (by show _≤n;omega) (by omega) hr (by unfold layA;omega)
 have hA:(areaW (Dsk.blank n) (zBj n 1) (layA n) ((1:Nat):Int) (zAj r)).2=fldA (Dsk.blank n) n 1 r:=rfl
 rw [hA] at a2 a3 a4 a5 a6
 have hh:=hdrB_len n (zAj r).length
 obtain ⟨b1,b2,b3,b4,b5⟩:=rest_write a2 0 1 (hdrB n (zAj r).length) (by rw [a3];show 0+2≤n;omega) (by omega) (by omega) (by omega)
 have hD:zCh (fldA (Dsk.blank n) n 1 r) ((0:Nat):Int) ((1:Nat):Int) (hdrB n (zAj r).length)=fmtD n r:=rfl
 rw [hD] at b2 b3 b4 b5
 have hbn:(Dsk.blank n).n=n:=rfl
 have st:Still (fmtD n r):=⟨b2.calm.1,b2.und,b2.ok⟩
 have hn:(fmtD n r).n=n:=by rw [b3,a3];rfl
 refine ⟨st,hn,b4,?_,g3.area,RdO.log0 h1 st hn ⟨by omega,by omega⟩ h2 g3.log,fun j hj=>Int.le_of_lt (g3.log j hj)⟩
 have e:(1+1) % 2=0:=rfl
 rw [e,b5 0 (by omega) (by rw [a3];omega),a6 0 (by omega) (.inl (by omega)),blank_sec n 0 (by omega),zs_tail0]
 omega
section
variable {W:World} {F:Nat→Addr}
theorem samA_ct (A B:SP) (a b:Option Addr) (c d:Nat) (l m:Rows) (hA:Lv W rC 2 A a l) (hB:Lv W rC 2 B b m) (h1:l.length≤4611686018427387904) :
 Ct Tryz.prog W 12 [.slice a l.length c,.slice b m.length d] [A,B] (fun q:Bool=>.bool q) (fun _=>[A,B]):=by
 by_cases he:((l.length:Nat):Int)=(m.length:Nat)
 rotate_left
 ·have qn:decide (((l.length:Nat):Int)≠(m.length:Nat))=true:=decide_eq_true he
  refine Ct.enter Tryz.func12 rfl Tryz.ntmps12 (by simp) (fun R=>?_)
  repeat' (first|(refine zBh ?_;refine zAc (Ev_neqI_q rfl rfl qn) ?_)|refine xst ?_|(refine xsa ?_;intro _)|(refine xsb ?_ ?_ <;>intro _<;>try (exfalso;omega))|refine xsc ?_|(refine zAb (id:=6) plTGM6 (by kernel_rfl) (by kernel_rfl) ?_)|refine zAn ?_ ?_|refine zAm rfl rfl rfl rfl rfl ?_ ?_|refine zAf ?_ ?_|exact Rech.nil|fail)
  all_goals (exact xdn false)
 refine Ct.enter Tryz.func12 rfl Tryz.ntmps12 (by simp) (fun R=>?_)
 repeat' (first|(refine zBh ?_;refine zAc (zCb rfl rfl he) ?_)|refine xst ?_|(refine xsa ?_;intro _)|(refine xsb ?_ ?_ <;>intro _<;>try (exfalso;omega))|refine xsc ?_|(refine zAb (id:=6) plTGM6 (by kernel_rfl) (by kernel_rfl) ?_)|refine zAn ?_ ?_|refine zAm rfl rfl rfl rfl rfl ?_ ?_|refine zAf ?_ ?_|exact Rech.nil|fail)
 refine zBz (fun i:{i:Nat//i≤l.length}=>[(0,.slice a l.length c),(1,.slice b m.length d),(12,.int .i64 (l.length:Nat)),(13,.int .i64 (i.1:Nat))])
  (fun _=>[A,B]++R) (fun i=>l.length-i.1) ⟨0,Nat.zero_le _⟩ xB (xN) (fun ⟨i,hi⟩=>?_)
 dsimp only
 by_cases hlt:i<l.length
 rotate_left
 ·have ql:decide ((i:Int)<(l.length:Nat))=false:=decide_eq_false (by omega)
  repeat' (first|(refine zAs ?_;refine zAc (zAe rfl rfl ql) ?_)|refine xst ?_|(refine xsa ?_;intro _)|(refine xsb ?_ ?_ <;>intro _<;>try (exfalso;omega))|refine xsc ?_|(refine zAb (id:=6) plTGM6 (by kernel_rfl) (by kernel_rfl) ?_)|refine zAn ?_ ?_|refine zAm rfl rfl rfl rfl rfl ?_ ?_|refine zAf ?_ ?_|exact Rech.nil|fail)
  all_goals (exact xdn true)
 have ql:decide ((i:Int)<(l.length:Nat))=true:=decide_eq_true (by omega)
 obtain ⟨x,hx⟩:∃ s,l[i]? = some s:=⟨_,List.getElem?_eq_getElem hlt⟩
 obtain ⟨y,hy⟩:∃ s,m[i]? = some s:=⟨_,List.getElem?_eq_getElem (by omega)⟩
 refine KJ.lvSome hA xS (by omega) (fun ba oa hab=>?_)
 subst hab
 refine KJ.lvSome hB xS (by omega) (fun bb ob hab=>?_)
 subst hab
 have ho1:oa+Int.toNat (i:Int)*2=oa+i*2:=by rw [Int.toNat_natCast]
 have ho2:ob+Int.toNat (i:Int)*2=ob+i*2:=by rw [Int.toNat_natCast]
 obtain ⟨z,hz⟩:∃ z,(!decide (x=y))=z:=⟨_,rfl⟩
 cases z with
 |true=>
  repeat' (first|(refine zAh ?_;first|refine zAc (zCc rC_ok hA rfl rfl xS ho1 hx) ?_|refine zAc (zCc rC_ok hB rfl rfl xS ho2 hy) ?_)|(refine zBh ?_;refine zAc (Ev_neqSt rfl rfl (row14_eqF x y Tryz.underlying96) hz) ?_)|(refine zAs ?_;refine zAc (zAe rfl rfl ql) ?_)|refine xst ?_|(refine xsa ?_;intro _)|(refine xsb ?_ ?_ <;>intro _<;>try (exfalso;omega))|refine xsc ?_|(refine zAb (id:=6) plTGM6 (by kernel_rfl) (by kernel_rfl) ?_)|refine zAn ?_ ?_|refine zAm rfl rfl rfl rfl rfl ?_ ?_|refine zAf ?_ ?_|exact Rech.nil|fail)
  all_goals (exact xdn false)
 |false=>
  repeat' (first|(refine zAh ?_;first|refine zAc (zCc rC_ok hA rfl rfl xS ho1 hx) ?_|refine zAc (zCc rC_ok hB rfl rfl xS ho2 hy) ?_)|(refine zBk ?_;refine zAc (zAi (r:=((i+1:Nat):Int)) rfl rfl (by omega) (by omega)) ?_)|(refine zBh ?_;refine zAc (Ev_neqSt rfl rfl (row14_eqF x y Tryz.underlying96) hz) ?_)|(refine zAs ?_;refine zAc (zAe rfl rfl ql) ?_)|refine xst ?_|(refine xsa ?_;intro _)|(refine xsb ?_ ?_ <;>intro _<;>try (exfalso;omega))|refine xsc ?_|(refine zAb (id:=6) plTGM6 (by kernel_rfl) (by kernel_rfl) ?_)|refine zAn ?_ ?_|refine zAm rfl rfl rfl rfl rfl ?_ ?_|refine zAf ?_ ?_|exact Rech.nil|fail)
  all_goals refine zBd ⟨i+1,hlt⟩ (by show l.length-(i+1)<l.length-i;omega) xB (xN)
end
end Go.Proofs.YtnkhohfbijkohaaGreatDoor
namespace Go.Proofs.YtnkhohfbijkohaaGreatDoor
open Go Go.RowKit
structure LifeT where
 ca:Option Addr
 cc:Nat
 commits:List OL
 compact:Int
 arm:Int
 ka:Option Addr
 kc:Nat
 kept:List Bool
 torn:Int
 bytes:Int
 ua:Option Addr
 uc:Nat
 cuts:List CutT
def lifeC (t:LifeT):List Value:=[.slice t.ca t.commits.length t.cc,.int .i64 t.compact,.int .i64 t.arm,.slice t.ka t.kept.length t.kc,.int .i64 t.torn,.int .i64 t.bytes,.slice t.ua t.cuts.length t.uc]
theorem lifeC_ok:EncOk lifeC 7:=⟨fun _=>rfl,fun x=>by unfold lifeC;exact xO,by omega⟩
def lifeW (t:LifeT):Nat:=t.commits.length+t.cuts.length+2
structure LifeOk (W:World) (t:LifeT):Prop where
 com:LsAt W opsC 1 (.slice t.ca t.commits.length t.cc) t.commits
 each:∀ x ∈ t.commits,OpsFit x.2.2∧LsAt W opC 3 (.slice x.1 x.2.2.length x.2.1) x.2.2
 arm:t.arm≤9223372036854775807
 kept:BoolsAt W (.slice t.ka t.kept.length t.kc) t.kept
 cut:LsAt W cutC 4 (.slice t.ua t.cuts.length t.uc) t.cuts
 cuts:∀ x ∈ t.cuts,BoolsAt W (.slice x.ka x.kept.length x.kc) x.kept∧x.arm≤9223372036854775807
theorem StA.arm {n m:Nat} {r:Rows} {d q g v used:Nat} {D:Dsk} {N:List Nd} {a:Option Addr} {b:Int} (h:StA n m r ⟨d,q,g,v,used,D,N,a,b⟩) (k:Int) (hk:k≤9223372036854775807):StA n m r ⟨d,q,g,v,used,D.arm k,N,a,b⟩:=by
 obtain ⟨⟨r0,recs,w,u,c⟩,h1,h2,h3⟩:=h
 exact ⟨⟨r0,recs,w.arm k hk,u,c⟩,h1,h2,h3⟩
theorem StA.ris {n m:Nat} {r:Rows} {x:StH} (h:StA n m r x):RisR r∧(zAj r).length≤234*layA n:=by
 obtain ⟨⟨r0,recs,w,u,c⟩,h1,h2,h3⟩:=h
 exact ⟨c.ris,c.room⟩
theorem StA.still {n m:Nat} {r:Rows} {x:StH} (h:StA n m r x):Still x.D:=by
 obtain ⟨⟨r0,recs,w,u,c⟩,h1,h2,h3⟩:=h
 exact w.still
theorem StA.up {n m m':Nat} {r:Rows} {x:StH} (h:StA n m r x) (hm:m≤m'):StA n m' r x:=⟨h.wk,h.v1,Nat.le_trans h.vm hm,h.tab⟩
theorem OpA.up {n m m':Nat} {r:Rows} {D:Dsk} (h:OpA n m r D) (hm:m≤m'):OpA n m' r D:=by
 obtain ⟨r0,recs,v,a,b,c⟩:=h
 exact ⟨r0,recs,v,a,⟨b.1,Nat.le_trans b.2 hm⟩,c⟩
structure LvR where
 r:Rows
 X:SP
 xa:Option Addr
 xc:Nat
 oa:Option Addr
 oc:Nat
 fl:List BOp
 q:Nat
 v:Int
 lg:Option Addr
 life:Int
 dead:Bool
 D:Dsk
 N:List Nd
 ta:Option Addr
 tb:Int
structure LvOk (W:World) (n m:Nat) (y:LvR):Prop where
 rows:Lv W rC 2 y.X y.xa y.r
 ris:RisR y.r∧(zAj y.r).length≤234*layA n
 fl:LsAt W opC 3 (.slice y.oa y.fl.length y.oc) y.fl
 fit:OpsFit y.fl
 und:y.D.und.length≤65536
 open_:∀ kept torn bytes,OpA n m y.r (y.D.crash kept torn bytes)∨OpA n m (zAu y.r y.fl) (y.D.crash kept torn bytes)
 down:∀ kept torn bytes,zCg (y.D.crash kept torn bytes) y.life y.dead=true
theorem LsAt_nil13 (W:World):LsAt W opC 3 (.slice none ([]:List BOp).length 0) []:=⟨none,0,rfl,fun h=>absurd rfl h⟩
theorem life_next (x:Int) (h:w64 (x+1)=x):False:=by
 unfold w64 Go.RowKit.wrap64 at h
 omega
theorem StA.left {W:World} {n m:Nat} {r:Rows} {d q g v used:Nat} {D:Dsk} {N:List Nd} {a:Option Addr} {b:Int} (h:StA n m r ⟨d,q,g,v,used,D,N,a,b⟩) (h1:64≤n) (h2:n≤176) (hm:m+1≤1099511627776) {X:SP} {xa:Option Addr} (xc:Nat) (hX:Lv W rC 2 X xa r) :
 LvOk W n m ⟨r,X,xa,xc,none,0,[],q,(v:Nat),some ⟨g,0,none⟩,D.life,false,D,N,a,b⟩:=by
 refine ⟨hX,h.ris,LsAt_nil13 W,OpsFit.nil,by have:=h.still.und;dsimp only at this ⊢;rw [this];simp,fun kept torn bytes=>.inl (h.crash h1 h2 hm kept torn bytes),fun kept torn bytes=>?_⟩
 show zCg (D.crash kept torn bytes) D.life false=true
 unfold zCg
 have:(D.crash kept torn bytes).life≠D.life:=fun e=>life_next _ e
 rw [decide_eq_true this]
 simp
theorem CutD.left {W:World} {n m m':Nat} {r:Rows} {D2:Dsk} {fl:List BOp} (h:CutD n m r (zAu r fl) D2) (hm:m≤m') (hr:RisR r∧(zAj r).length≤234*layA n) {X:SP} {xa:Option Addr} (xc:Nat) (hX:Lv W rC 2 X xa r) (oa:Option Addr) (oc:Nat) (hf:OpsFit fl) (hl:LsAt W opC 3 (.slice oa fl.length oc) fl) (q:Nat) (v:Int) (lg:Option Addr) (life:Int) (N:List Nd) (a:Option Addr) (b:Int) :
 LvOk W n m' ⟨r,X,xa,xc,oa,oc,fl,q,v,lg,life,true,D2,N,a,b⟩:=by
 refine ⟨hX,hr,hl,hf,h.und,fun kept torn bytes=>?_,fun kept torn bytes=>by simp [zCg]⟩
 rcases h.open_ kept torn bytes with q|q
 ·exact .inl (q.up hm)
 ·exact .inr (q.up hm)
section
variable {W:World} {F:Nat→Addr} {s d n:Nat}
instance fn_lived13:FnIs Tryz.prog 23:=⟨by kernel_rfl⟩
set_option maxRecDepth 100000 in
theorem lived13_ct (hE:ErrsAt W F) (hN:NibAt W) (hg:gB≤W.heap.size) (h1:64≤n) (h2:n≤176) {m:Nat} {r0:Rows} (q0 g0 v0 used0:Nat) (D0:Dsk) (N0:List Nd) (a0:Option Addr) (b0:Int) (hS0:StA n m r0 ⟨d,q0,g0,v0,used0,D0,N0,a0,b0⟩) (X0:SP) (xa0:Option Addr) (xc0:Nat) (hX0:Lv W rC 2 X0 xa0 r0) (t:LifeT) (ht:LifeOk W t) (hm:m+2*t.commits.length+2≤1099511627776) :
 Ct Tryz.prog W 23 [.pointer (some ⟨d,0,none⟩),.pointer (some ⟨s,0,none⟩),.slice xa0 r0.length xc0,.agg (lifeC t).toArray] (X0::stL s n ⟨d,q0,g0,v0,used0,D0,N0,a0,b0⟩)
  (fun y:{y:LvR//LvOk W n (m+2*t.commits.length) y}=>.tuple #[.slice y.1.xa y.1.r.length y.1.xc,.slice y.1.oa y.1.fl.length y.1.oc,.bool true]) (fun y=>[y.1.X,stP s d y.1.q n y.1.v y.1.lg y.1.life y.1.dead,DiskP d y.1.D,tbP y.1.q y.1.ta y.1.tb,arP y.1.N]):=by
 have hE16:ErrsOn L16 W F:=hE.to16
 have hE8:ErrsOn L8 W F:=hE16.to8
 obtain ⟨ca,cc,cs,compact,arm,ka,kc,kept,torn,bytes,ua,uc,cuts⟩:=t
 obtain ⟨hcom,heach,harm,-,-,-⟩:=ht
 dsimp only at hcom heach harm hm ⊢
 have hB:=Lv.old opsC_ok hcom
 have c12:=numA_ct hE hg 12 (by omega)
 have n12:=errNe (F:=F) (e:=12) (by omega)
 have car:=arm_ct (W:=W) (p:=d) (D:=D0) arm harm
 have hSA:=hS0.arm arm harm
 obtain ⟨DA,hDA⟩:∃ DA,DA=D0.arm arm:=⟨_,rfl⟩
 have hlf:DA.life=D0.life:=by rw [hDA];rfl
 rw [← hDA] at car hSA
 clear hDA
 refine Ct.enter Tryz.func23 rfl Tryz.ntmps23 (by simp) (fun R=>?_)
 unfold stL
 dsimp only
 rw [← hlf]
 clear hlf
 repeat' (first|(refine is_box ?_;refine KJ_box rfl xF rfl (fun g7=>?_))|(refine zAd ?_;first|(refine KJ_call0 xE car xP (fun _=>?_))|(refine zAa xE car xP rfl (fun _=>?_)))|refine xst ?_|(refine xsa ?_;intro _)|(refine xsb ?_ ?_ <;>intro _<;>try (exfalso;omega))|refine xsc ?_|fail)
 refine zBz (fun x:{x:Nat × Rows × (SP × Option Addr × Nat) × StH//x.1≤cs.length∧StA n (m+2*x.1) x.2.1 x.2.2.2∧x.2.2.2.d=d∧Lv W rC 2 x.2.2.1.1 x.2.2.1.2.1 x.2.1}=>[(0,.pointer (some ⟨d,0,none⟩)),(1,.pointer (some ⟨s,0,none⟩)),(2,.slice x.1.2.2.1.2.1 x.1.2.1.length x.1.2.2.1.2.2),(7,.pointer (some ⟨g7,0,none⟩)),(19,.slice ca cs.length cc),(20,.int .i64 (cs.length:Nat)),(21,.int .i64 (x.1.1:Nat))])
  (fun x=>[x.1.2.2.1.1,stP s x.1.2.2.2.d x.1.2.2.2.q n (x.1.2.2.2.v:Nat) (some ⟨x.1.2.2.2.g,0,none⟩) x.1.2.2.2.D.life false,DiskP x.1.2.2.2.d x.1.2.2.2.D,tbP x.1.2.2.2.q x.1.2.2.2.a x.1.2.2.2.b,arP x.1.2.2.2.N,jouU x.1.2.2.2.g x.1.2.2.2.d n x.1.2.2.2.v x.1.2.2.2.used x.1.2.2.2.D.life,zAq g7 [.slice ca cs.length cc,.int .i64 compact,.int .i64 arm,.slice ka kept.length kc,.int .i64 torn,.int .i64 bytes,.slice ua cuts.length uc] 66]++R) (fun x=>cs.length-x.1.1) ⟨(0,r0,(X0,xa0,xc0),⟨d,q0,g0,v0,used0,DA,N0,a0,b0⟩),Nat.zero_le _,hSA,rfl,hX0⟩ xB (xN) (fun ⟨(i,r,(X,xa,xc),⟨zd,q,g,v,used,D,N,ta,tb⟩),hi,hS,hd,hX⟩=>?_)
 dsimp only at hi hS hd hX ⊢
 subst hd
 clear hS0 hSA hX0 car
 by_cases hlt:i<cs.length
 rotate_left
 ·have ql:decide ((i:Int)<(cs.length:Nat))=false:=decide_eq_false (by omega)
  have hL:=hS.left (W:=W) h1 h2 (by omega) xc hX
  obtain rfl:i=cs.length:=by omega
  repeat' (first|(refine zAs ?_;refine zAc (zAe rfl rfl ql) ?_)|refine xst ?_|(refine xsa ?_;intro _)|(refine xsb ?_ ?_ <;>intro _<;>try (exfalso;omega))|refine xsc ?_|fail)
  all_goals exact xdn ⟨⟨r,X,xa,xc,none,0,[],q,(v:Nat),some ⟨g,0,none⟩,D.life,false,D,N,ta,tb⟩,hL⟩
 have ql:decide ((i:Int)<(cs.length:Nat))=true:=decide_eq_true (by omega)
 obtain ⟨⟨oa,oc,ops⟩,ho⟩:∃ x,cs[i]? = some x:=⟨_,List.getElem?_eq_getElem hlt⟩
 obtain ⟨hO,hLs⟩:=heach _ (List.mem_of_getElem? ho)
 dsimp only at hO hLs
 have hol:=hO.len
 refine KJ.noP ?_
 refine KJ.lvSome hB xS (by omega) (fun bb ob hab=>?_)
 subst hab
 have ho1:ob+Int.toNat (i:Int)*1=ob+i*1+0:=by simp
 have hv0:(opsC (oa,oc,ops))[0]? = some (.slice oa ops.length oc):=rfl
 have cp:=copied13_ct (W:=W) noP oa oc ops (Lv.old enc_op hLs) (by omega)
 have hris:=hS.ris
 obtain ⟨hrl,hrs⟩:=rows_room hris.2 (by omega)
 obtain ⟨qk,hqk⟩:∃ qk,decide ((i:Int)=compact)=qk:=⟨_,rfl⟩
 have nil_:LsAt W opC 3 (.slice none ([]:List BOp).length 0) []:=LsAt_nil13 W
 cases qk with
 |true=>
  rcases scompactA (W:=W) (F:=F) (s:=s) hE8 hN h1 h2 (m:=m+2*i) (by omega) ⟨zd,q,g,v,used,D,N,ta,tb⟩ hS with ⟨D2,hcut,cx⟩|cx
  ·have cof:Ct Tryz.prog W 44 [.pointer (some ⟨zd,0,none⟩)] [DiskP zd D2] (fun _:Unit=>.bool true) (fun _=>[DiskP zd D2]):=by
    have:=off_ct (W:=W) (p:=zd) (D:=D2)
    rw [hcut.off] at this
    exact this
   have hT:=hS.tab
   dsimp only at hT
   have crw:=fun (lg:Option Addr) (M:List Nd) (hM:∀ z ∈ N,z ∈ M)=>srows_ct (W:=W) (s:=s) (d:=zd) (q:=q) (n:=n) (b:=tb) (v:Nat) lg D.life true (hT.mono hM) (by omega)
   have cse:=fun ua uc=>srows13_ct (W:=W) (ropP (ua,uc) r) X ua xa uc xc r (Lv.own (e:=96) (c:=uc) rC_ok rfl) hX (by omega)
   unfold stL deadL at cx
   dsimp only at cx
   have hcut':CutD n (m+2*i+1) r (zAu r []) D2:=hcut
   repeat' (first|(refine zAd ?_;first|(refine zAa xE (cse ua uc) xP rfl (fun _=>?_))|(refine zAa xE (crw lg M hM) xP rfl (fun x=>?_);obtain ⟨ua,uc⟩:=x)|(refine zAa xE cof xP rfl (fun _=>?_))|(refine zAa xE c12 xP rfl (fun _=>?_))|(refine zAa xE cx xP rfl (fun y=>?_);obtain ⟨⟨M,hM⟩,lg⟩:=y;dsimp only at hM ⊢))|(refine zAh ?_;refine zAc (Ev_loadLvF opsC_ok hB rfl rfl xS ho1 ho hv0) ?_)|(refine zBe ?_;first|refine zAc (zAk (q:=false) rfl rfl rfl) ?_|refine zAc (zAk (q:=true) rfl rfl rfl) ?_|refine zAc (Ev_eqlNil rfl n12) ?_|refine zAc (zAk rfl rfl hqk) ?_)|(refine zAs ?_;refine zAc (zAe rfl rfl ql) ?_)|refine xst ?_|(refine xsa ?_;intro _)|(refine xsb ?_ ?_ <;>intro _<;>try (exfalso;omega))|refine xsc ?_|fail)
   all_goals exact xdn ⟨⟨r,X,xa,xc,none,0,[],q,(v:Nat),lg,D.life,true,D2,M,ta,tb⟩,hcut'.left (by omega) hris xc hX none 0 OpsFit.nil nil_ q _ lg _ M ta tb⟩
  unfold stL at cx
  dsimp only at cx
  repeat' (first|(refine zAd ?_;refine zAa xE cx xP rfl (fun y=>?_);obtain ⟨⟨xd,q2,g2,v2,used2,D3,N2,ta2,tb2⟩,hSc,hxd⟩:=y;dsimp only at hxd ⊢;subst hxd;refine hold ?_)|(refine zAh ?_;refine zAc (Ev_loadLvF opsC_ok hB rfl rfl xS ho1 ho hv0) ?_)|(refine zBe ?_;refine zAc (zAk rfl rfl hqk) ?_)|(refine zAs ?_;refine zAc (zAe rfl rfl ql) ?_)|refine xst ?_|(refine xsa ?_;intro _)|(refine xsb ?_ ?_ <;>intro _<;>try (exfalso;omega))|refine xsc ?_|fail)
  refine Hold.mk ?_
  have hT:=hSc.tab
  dsimp only at hT
  repeat' (first|(refine zAd ?_;refine zAa xE cp xP rfl (fun y=>?_);obtain ⟨ya,yc⟩:=y;refine hold ?_)|(refine zAh ?_;refine zAc (Ev_loadLvF opsC_ok hB rfl rfl xS ho1 ho hv0) ?_)|(refine zBe ?_;refine zAc (zAk rfl rfl hqk) ?_)|(refine zAs ?_;refine zAc (zAe rfl rfl ql) ?_)|refine xst ?_|(refine xsa ?_;intro _)|(refine xsb ?_ ?_ <;>intro _<;>try (exfalso;omega))|refine xsc ?_|fail)
  refine Hold.mk ?_
  rcases scommitA (W:=W) (F:=F) (s:=s) hE16 hE8 hN h1 h2 (m:=m+2*i+1) (by omega) ⟨xd,q2,g2,v2,used2,D3,N2,ta2,tb2⟩ hSc (copP (ya,yc) ops) ya yc ops (Lv.own (e:=73) (c:=yc) enc_op rfl) hO with ⟨D2,hcut,cx⟩|cx
  ·have cof:Ct Tryz.prog W 44 [.pointer (some ⟨xd,0,none⟩)] [DiskP xd D2] (fun _:Unit=>.bool true) (fun _=>[DiskP xd D2]):=by
    have:=off_ct (W:=W) (p:=xd) (D:=D2)
    rw [hcut.off] at this
    exact this
   have crw:=fun (lg:Option Addr) (M:List Nd) (hM:∀ z ∈ N2,z ∈ M)=>srows_ct (W:=W) (s:=s) (d:=xd) (q:=q2) (n:=n) (b:=tb2) (v2:Nat) lg D3.life true (hT.mono hM) (by omega)
   have cse:=fun ua uc=>srows13_ct (W:=W) (ropP (ua,uc) r) X ua xa uc xc r (Lv.own (e:=96) (c:=uc) rC_ok rfl) hX (by omega)
   unfold stL deadL at cx
   dsimp only at cx
   repeat' (first|(refine zAd ?_;first|(refine zAa xE (cse ua uc) xP rfl (fun _=>?_))|(refine zAa xE (crw lg M hM) xP rfl (fun x=>?_);obtain ⟨ua,uc⟩:=x)|(refine zAa xE cof xP rfl (fun _=>?_))|(refine zAa xE c12 xP rfl (fun _=>?_))|(refine zAa xE cx xP rfl (fun y=>?_);obtain ⟨⟨M,hM⟩,lg⟩:=y;dsimp only at hM ⊢))|(refine zBe ?_;first|refine zAc (zAk (q:=false) rfl rfl rfl) ?_|refine zAc (zAk (q:=true) rfl rfl rfl) ?_|refine zAc (Ev_eqlNil rfl n12) ?_)|refine xst ?_|(refine xsa ?_;intro _)|(refine xsb ?_ ?_ <;>intro _<;>try (exfalso;omega))|refine xsc ?_|fail)
   all_goals exact xdn ⟨⟨r,X,xa,xc,oa,oc,ops,q2,(v2:Nat),lg,D3.life,true,D2,M,ta2,tb2⟩,hcut.left (by omega) hris xc hX oa oc hO hLs q2 _ lg _ M ta2 tb2⟩
  have hcs:=commE_cases n r ops
  unfold stL at cx
  dsimp only at cx
  by_cases h0:commE n r ops=0
  ·have hr2:=commR_yes hris.1 h0
   rw [h0,hr2,errV_zero] at cx
   have cb:=behind13_ct (W:=W) X noP xa oa xc oc r ops hX (Lv.old enc_op hLs) hris.1 (by omega) (by omega)
   have c0:=numA_ct hE hg 0 (by omega)
   rw [errV_zero] at c0
   obtain ⟨r2,hrr⟩:∃ r2,r2=zAu r ops:=⟨_,rfl⟩
   rw [← hrr] at cx cb
   clear hrr hr2
   repeat' (first|(refine zAd ?_;first|(refine zAa xE (cse ua uc) xP rfl (fun _=>?_))|(refine zAa xE crw xP rfl (fun x=>?_);obtain ⟨ua,uc⟩:=x)|(refine zAa xE c0 xP rfl (fun _=>?_))|(refine zAa xE cb xP rfl (fun x=>?_);obtain ⟨va,vc⟩:=x;have hV:Lv W rC 2 (ropP (va,vc) r2) va r2:=(Lv.own (e:=96) (c:=vc) rC_ok rfl);have cse:=fun ua uc=>srows13_ct (W:=W) (ropP (ua,uc) r2) (ropP (va,vc) r2) ua va uc vc r2 (Lv.own (e:=96) (c:=uc) rC_ok rfl) hV (by omega))|(refine zAa xE cx xP rfl (fun y=>?_);obtain ⟨⟨yd,yq,yg,yv,yu,yD,yN,ya3,yb⟩,hJ,hyd⟩:=y;dsimp only at hyd ⊢;subst hyd;have hris2:=hJ.ris;have hT2:=hJ.tab;dsimp only at hT2;obtain ⟨hrl2,hrs2⟩:=rows_room hris2.2 (by omega);have crw:=srows_ct (W:=W) (s:=s) (d:=yd) (q:=yq) (n:=n) (b:=yb) (yv:Nat) (some ⟨yg,0,none⟩) yD.life false hT2 (by omega)))|(refine zBk ?_;refine zAc (zAi (r:=((i+1:Nat):Int)) rfl rfl (by omega) (by omega)) ?_)|(refine zBe ?_;refine zAc (zAk (q:=true) rfl rfl rfl) ?_)|refine xst ?_|(refine xsa ?_;intro _)|(refine xsb ?_ ?_ <;>intro _<;>try (exfalso;omega))|refine xsc ?_|fail)
   all_goals refine zBd ⟨(i+1,r2,(ropP (va,vc) r2,va,vc),⟨yd,yq,yg,yv,yu,yD,yN,ya3,yb⟩),hlt,hJ.up (by omega),rfl,hV⟩ (by show cs.length-(i+1)<cs.length-i;omega) xB (xN)
  obtain ⟨ce,hce⟩:∃ e,e=commE n r ops:=⟨_,rfl⟩
  have hr2:commR n r ops=r:=by unfold commR;rw [if_neg h0]
  rw [hr2,← hce] at cx
  have hce2:ce=17∨ce=18:=by omega
  have cN:=numA_ct hE hg ce (by omega)
  have nN:=errNe (F:=F) (e:=ce) (by omega)
  have cse:=fun ua uc=>srows13_ct (W:=W) (ropP (ua,uc) r) X ua xa uc xc r (Lv.own (e:=96) (c:=uc) rC_ok rfl) hX (by omega)
  clear hce
  have qz:decide (((ce:Nat):Int)=0)=false:=decide_eq_false (by omega)
  obtain ⟨q7,hq7⟩:∃ q7,decide (((ce:Nat):Int)=17)=q7:=⟨_,rfl⟩
  obtain ⟨q8,hq8⟩:∃ q8,decide (((ce:Nat):Int)=18)=q8:=⟨_,rfl⟩
  have hq78:q7=true∨(q7=false∧q8=true):=by
   rcases hce2 with rfl|rfl
   ·exact .inl (by rw [← hq7];rfl)
   ·exact .inr ⟨by rw [← hq7];rfl,by rw [← hq8];rfl⟩
  rcases hq78 with rfl|⟨rfl,rfl⟩
  all_goals
   repeat' (first|(refine zAd ?_;first|(refine zAa xE (cse ua uc) xP rfl (fun _=>?_))|(refine zAa xE crw xP rfl (fun x=>?_);obtain ⟨ua,uc⟩:=x)|(refine zAa xE cN xP rfl (fun _=>?_))|(refine zAa xE cx xP rfl (fun y=>?_);obtain ⟨⟨yd,yq,yg,yv,yu,yD,yN,ya3,yb⟩,hJ,hyd⟩:=y;dsimp only at hyd ⊢;subst hyd;have hT2:=hJ.tab;dsimp only at hT2;have crw:=srows_ct (W:=W) (s:=s) (d:=yd) (q:=yq) (n:=n) (b:=yb) (yv:Nat) (some ⟨yg,0,none⟩) yD.life false hT2 (by omega)))|(refine zBk ?_;refine zAc (zAi (r:=((i+1:Nat):Int)) rfl rfl (by omega) (by omega)) ?_)|(refine zBe ?_;first|refine zAc (zAk rfl rfl hq8) ?_|refine zAc (zAk rfl rfl hq7) ?_|refine zAc (zAk rfl rfl qz) ?_|refine zAc (Ev_eqlNil rfl nN) ?_)|refine xst ?_|(refine xsa ?_;intro _)|(refine xsb ?_ ?_ <;>intro _<;>try (exfalso;omega))|refine xsc ?_|fail)
   all_goals refine zBd ⟨(i+1,r,(X,xa,xc),⟨yd,yq,yg,yv,yu,yD,yN,ya3,yb⟩),hlt,hJ.up (by omega),rfl,hX⟩ (by show cs.length-(i+1)<cs.length-i;omega) xB (xN)
 |false=>
  have hSc:=hS
  have hT:=hSc.tab
  dsimp only at hT
  repeat' (first|(refine zAd ?_;refine zAa xE cp xP rfl (fun y=>?_);obtain ⟨ya,yc⟩:=y;refine hold ?_)|(refine zAh ?_;refine zAc (Ev_loadLvF opsC_ok hB rfl rfl xS ho1 ho hv0) ?_)|(refine zBe ?_;refine zAc (zAk rfl rfl hqk) ?_)|(refine zAs ?_;refine zAc (zAe rfl rfl ql) ?_)|refine xst ?_|(refine xsa ?_;intro _)|(refine xsb ?_ ?_ <;>intro _<;>try (exfalso;omega))|refine xsc ?_|fail)
  refine Hold.mk ?_
  rcases scommitA (W:=W) (F:=F) (s:=s) hE16 hE8 hN h1 h2 (m:=m+2*i) (by omega) ⟨zd,q,g,v,used,D,N,ta,tb⟩ hSc (copP (ya,yc) ops) ya yc ops (Lv.own (e:=73) (c:=yc) enc_op rfl) hO with ⟨D2,hcut,cx⟩|cx
  ·have cof:Ct Tryz.prog W 44 [.pointer (some ⟨zd,0,none⟩)] [DiskP zd D2] (fun _:Unit=>.bool true) (fun _=>[DiskP zd D2]):=by
    have:=off_ct (W:=W) (p:=zd) (D:=D2)
    rw [hcut.off] at this
    exact this
   have crw:=fun (lg:Option Addr) (M:List Nd) (hM:∀ z ∈ N,z ∈ M)=>srows_ct (W:=W) (s:=s) (d:=zd) (q:=q) (n:=n) (b:=tb) (v:Nat) lg D.life true (hT.mono hM) (by omega)
   have cse:=fun ua uc=>srows13_ct (W:=W) (ropP (ua,uc) r) X ua xa uc xc r (Lv.own (e:=96) (c:=uc) rC_ok rfl) hX (by omega)
   unfold stL deadL at cx
   dsimp only at cx
   repeat' (first|(refine zAd ?_;first|(refine zAa xE (cse ua uc) xP rfl (fun _=>?_))|(refine zAa xE (crw lg M hM) xP rfl (fun x=>?_);obtain ⟨ua,uc⟩:=x)|(refine zAa xE cof xP rfl (fun _=>?_))|(refine zAa xE c12 xP rfl (fun _=>?_))|(refine zAa xE cx xP rfl (fun y=>?_);obtain ⟨⟨M,hM⟩,lg⟩:=y;dsimp only at hM ⊢))|(refine zBe ?_;first|refine zAc (zAk (q:=false) rfl rfl rfl) ?_|refine zAc (zAk (q:=true) rfl rfl rfl) ?_|refine zAc (Ev_eqlNil rfl n12) ?_)|refine xst ?_|(refine xsa ?_;intro _)|(refine xsb ?_ ?_ <;>intro _<;>try (exfalso;omega))|refine xsc ?_|fail)
   all_goals exact xdn ⟨⟨r,X,xa,xc,oa,oc,ops,q,(v:Nat),lg,D.life,true,D2,M,ta,tb⟩,hcut.left (by omega) hris xc hX oa oc hO hLs q _ lg _ M ta tb⟩
  have hcs:=commE_cases n r ops
  unfold stL at cx
  dsimp only at cx
  by_cases h0:commE n r ops=0
  ·have hr2:=commR_yes hris.1 h0
   rw [h0,hr2,errV_zero] at cx
   have cb:=behind13_ct (W:=W) X noP xa oa xc oc r ops hX (Lv.old enc_op hLs) hris.1 (by omega) (by omega)
   have c0:=numA_ct hE hg 0 (by omega)
   rw [errV_zero] at c0
   obtain ⟨r2,hrr⟩:∃ r2,r2=zAu r ops:=⟨_,rfl⟩
   rw [← hrr] at cx cb
   clear hrr hr2
   repeat' (first|(refine zAd ?_;first|(refine zAa xE (cse ua uc) xP rfl (fun _=>?_))|(refine zAa xE crw xP rfl (fun x=>?_);obtain ⟨ua,uc⟩:=x)|(refine zAa xE c0 xP rfl (fun _=>?_))|(refine zAa xE cb xP rfl (fun x=>?_);obtain ⟨va,vc⟩:=x;have hV:Lv W rC 2 (ropP (va,vc) r2) va r2:=(Lv.own (e:=96) (c:=vc) rC_ok rfl);have cse:=fun ua uc=>srows13_ct (W:=W) (ropP (ua,uc) r2) (ropP (va,vc) r2) ua va uc vc r2 (Lv.own (e:=96) (c:=uc) rC_ok rfl) hV (by omega))|(refine zAa xE cx xP rfl (fun y=>?_);obtain ⟨⟨yd,yq,yg,yv,yu,yD,yN,ya3,yb⟩,hJ,hyd⟩:=y;dsimp only at hyd ⊢;subst hyd;have hris2:=hJ.ris;have hT2:=hJ.tab;dsimp only at hT2;obtain ⟨hrl2,hrs2⟩:=rows_room hris2.2 (by omega);have crw:=srows_ct (W:=W) (s:=s) (d:=yd) (q:=yq) (n:=n) (b:=yb) (yv:Nat) (some ⟨yg,0,none⟩) yD.life false hT2 (by omega)))|(refine zBk ?_;refine zAc (zAi (r:=((i+1:Nat):Int)) rfl rfl (by omega) (by omega)) ?_)|(refine zBe ?_;refine zAc (zAk (q:=true) rfl rfl rfl) ?_)|refine xst ?_|(refine xsa ?_;intro _)|(refine xsb ?_ ?_ <;>intro _<;>try (exfalso;omega))|refine xsc ?_|fail)
   all_goals refine zBd ⟨(i+1,r2,(ropP (va,vc) r2,va,vc),⟨yd,yq,yg,yv,yu,yD,yN,ya3,yb⟩),hlt,hJ.up (by omega),rfl,hV⟩ (by show cs.length-(i+1)<cs.length-i;omega) xB (xN)
  obtain ⟨ce,hce⟩:∃ e,e=commE n r ops:=⟨_,rfl⟩
  have hr2:commR n r ops=r:=by unfold commR;rw [if_neg h0]
  rw [hr2,← hce] at cx
  have hce2:ce=17∨ce=18:=by omega
  have cN:=numA_ct hE hg ce (by omega)
  have nN:=errNe (F:=F) (e:=ce) (by omega)
  have cse:=fun ua uc=>srows13_ct (W:=W) (ropP (ua,uc) r) X ua xa uc xc r (Lv.own (e:=96) (c:=uc) rC_ok rfl) hX (by omega)
  clear hce
  have qz:decide (((ce:Nat):Int)=0)=false:=decide_eq_false (by omega)
  obtain ⟨q7,hq7⟩:∃ q7,decide (((ce:Nat):Int)=17)=q7:=⟨_,rfl⟩
  obtain ⟨q8,hq8⟩:∃ q8,decide (((ce:Nat):Int)=18)=q8:=⟨_,rfl⟩
  have hq78:q7=true∨(q7=false∧q8=true):=by
   rcases hce2 with rfl|rfl
   ·exact .inl (by rw [← hq7];rfl)
   ·exact .inr ⟨by rw [← hq7];rfl,by rw [← hq8];rfl⟩
  rcases hq78 with rfl|⟨rfl,rfl⟩
  all_goals
   repeat' (first|(refine zAd ?_;first|(refine zAa xE (cse ua uc) xP rfl (fun _=>?_))|(refine zAa xE crw xP rfl (fun x=>?_);obtain ⟨ua,uc⟩:=x)|(refine zAa xE cN xP rfl (fun _=>?_))|(refine zAa xE cx xP rfl (fun y=>?_);obtain ⟨⟨yd,yq,yg,yv,yu,yD,yN,ya3,yb⟩,hJ,hyd⟩:=y;dsimp only at hyd ⊢;subst hyd;have hT2:=hJ.tab;dsimp only at hT2;have crw:=srows_ct (W:=W) (s:=s) (d:=yd) (q:=yq) (n:=n) (b:=yb) (yv:Nat) (some ⟨yg,0,none⟩) yD.life false hT2 (by omega)))|(refine zBk ?_;refine zAc (zAi (r:=((i+1:Nat):Int)) rfl rfl (by omega) (by omega)) ?_)|(refine zBe ?_;first|refine zAc (zAk rfl rfl hq8) ?_|refine zAc (zAk rfl rfl hq7) ?_|refine zAc (zAk rfl rfl qz) ?_|refine zAc (Ev_eqlNil rfl nN) ?_)|refine xst ?_|(refine xsa ?_;intro _)|(refine xsb ?_ ?_ <;>intro _<;>try (exfalso;omega))|refine xsc ?_|fail)
   all_goals refine zBd ⟨(i+1,r,(X,xa,xc),⟨yd,yq,yg,yv,yu,yD,yN,ya3,yb⟩),hlt,hJ.up (by omega),rfl,hX⟩ (by show cs.length-(i+1)<cs.length-i;omega) xB (xN)
end
end Go.Proofs.YtnkhohfbijkohaaGreatDoor
namespace Go.Proofs.YtnkhohfbijkohaaGreatDoor
open Go Go.RowKit
section
variable {P:Program} {W:World} {n off:Nat} {E:Env} {H R:List SP} {x:Operand} {t:TypeId} {α:Type} {enc:α→List Value} {sz:Nat}
theorem Ev_loadLvX {A:SP} {a:Option Addr} {i j m:Nat} {l:List α} {q:α} {vs:List Value} {b0 o:Nat} (K:EncOk enc sz) (hL:Lv W enc sz A a l) (ha:a=some ⟨b0,o,none⟩) (hx:Env.ev E x=some (.pointer (some ⟨b0,off,none⟩))) [hu:AgIs P t] [hi:SzIs P t m] (hs:Sel A H R) (ho:off=o+i*sz+j) (hq:l[i]? = some q) (hv:Cut (enc q) j m vs):Ev P W n E H (.load t x) (.agg vs.toArray):=
 Ev.mk fun op hop ac w p s=>by
  obtain ⟨dd,hu,hd⟩:=hu.h
  subst ho
  obtain ⟨b',o',ha',hr⟩:=hL.go w H R hs s (by intro h;subst h;simp at hq)
  rw [ha] at ha'
  cases ha'
  have hc:w.rangeAt b0 (o+i*sz+j) vs:=fun k v hk=>by
   have:=hr _ v (K.at_ hq (hv.spec.2 k v hk))
   rwa [← Nat.add_assoc,← Nat.add_assoc] at this
  have:=run_loadAt_mid (P:=P) w b0 (o+i*sz+j) t vs dd hc hu (isRow_of hd) (by rw [hv.spec.1];exact hi.h)
  simp [execOp,hop,p.ev hx,this,Result.andThen]
end
def cutsAt (L:List LifeT) (i:Nat):List CutT:=if i=0 then [] else ((L[i-1]?).map (·.cuts)).getD []
structure WhI where
 i:Nat
 m:Nat
 r:Rows
 fl:List BOp
 D:Dsk
 X:SP
 xa:Option Addr
 xc:Nat
 oa:Option Addr
 oc:Nat
structure WhOk (W:World) (n:Nat) (L:List LifeT) (y:WhI):Prop where
 il:y.i≤L.length
 d:OpA n y.m y.r y.D∨OpA n y.m (zAu y.r y.fl) y.D
 rows:Lv W rC 2 y.X y.xa y.r
 ris:RisR y.r∧(zAj y.r).length≤234*layA n
 fl:LsAt W opC 3 (.slice y.oa y.fl.length y.oc) y.fl
 fit:OpsFit y.fl
 m:y.m+(cutsAt L y.i).length≤1+2*sumW lifeW (L.take y.i)
theorem OpA.ris {n m:Nat} {r:Rows} {D:Dsk} (h:OpA n m r D):RisR r∧(zAj r).length≤234*layA n:=by
 obtain ⟨r0,recs,v,a,b,c⟩:=h
 exact ⟨c.ris,c.room⟩
theorem sumW_take_le {γ:Type} (w:γ→Nat) (l:List γ) (i:Nat):sumW w (l.take i)≤sumW w l:=by
 have h:sumW w l=sumW w (l.take i)+sumW w (l.drop i):=by rw [← sumW_append,List.take_append_drop]
 omega
section
variable {W:World} {F:Nat→Addr}
set_option maxRecDepth 100000 in
theorem whole13_ct (hE:ErrsAt W F) (hN:NibAt W) (hg:gB≤W.heap.size) (nI:Int) (A C:SP) (a ca:Option Addr) (ac cc:Nat) (first:List BOp) (L:List LifeT) (hA:Lv W opC 3 A a first) (hC:Lv W lifeC 7 C ca L) (hf:OpsFit first) (hLl:L.length≤1048576) (hw:sumW lifeW L≤1048576) (hx:∀ x ∈ L,LifeOk W x) (hca:L≠[]→∃ cb co,ca=some ⟨cb,co,none⟩) :
 Ct Tryz.prog W 4 [.int .i64 nI,.slice a first.length ac,.slice ca L.length cc] [A,C] (fun _:Unit=>.bool true) (fun _=>[A,C]):=by
 have hE16:ErrsOn L16 W F:=hE.to16
 have hE8:ErrsOn L8 W F:=hE16.to8
 have cL:=fixed13_ct hE hN hg
 obtain ⟨B1,hB1⟩:∃ B,IntKind.u64.wrap nI=B:=⟨_,rfl⟩
 have hb1:0≤B1∧B1<18446744073709551616:=by
  have e:IntKind.u64.wrap nI=nI % 18446744073709551616:=rfl
  omega
 obtain ⟨m,hm⟩:∃ k:Nat,B1 % 30=(k:Int):=⟨(B1 % 30).toNat,by omega⟩
 have hm29:m≤29:=by omega
 have hwm:IntKind.i64.wrap ((m:Nat):Int)=((m:Nat):Int):=by
  rw [IntKind.wrap_i64]
  omega
 obtain ⟨n,hn⟩:∃ n,n=64+m:=⟨_,rfl⟩
 have hn1:64≤n:=by omega
 have hn2:n≤93:=by omega
 have cn:Ct Tryz.prog W 20 [.int .i64 (n:Nat)] [] (fun p:Nat=>.tuple #[.pointer (some ⟨p,0,none⟩),.nilIface]) (fun p=>[DiskP p (Dsk.blank n)]):=new_ct n (by omega) (by omega) hg
 have hfl:=hf.len
 have cc13:=copied13_ct A a ac first hA (by omega)
 have c17:=numA_ct hE hg 17 (by omega)
 obtain ⟨r0,hr0⟩:∃ r,zAu [] first=r:=⟨_,rfl⟩
 have hris0:RisR r0:=by rw [← hr0];exact applyB_ris List.Pairwise.nil _
 have hsn0:(zAj r0).length≤4611686018427387904:=by rw [← hr0];exact hf.snap List.Pairwise.nil (by show (1:Nat)≤_;omega)
 by_cases hbig:234*layA n<(zAj r0).length
 ·have cf:=fun (p:Nat) (ya:Option Addr) (yc:Nat)=>sformatF_ct (W:=W) (F:=F) (d:=p) hE16 hE8 hN hn1 (by omega) (copP (ya,yc) first) ya yc first (Lv.own (e:=73) (c:=yc) enc_op rfl) (by omega) r0 hr0 hbig hsn0
  have hne:=errNe (F:=F) (e:=17) (by omega)
  refine Ct.enter Tryz.func4 rfl Tryz.ntmps4 (by simp) (fun R=>?_)
  repeat' (first|(refine zAd ?_;first|(refine zAa xE c17 xP rfl (fun _=>?_))|(refine zAa xE (cf _ _ _) xP rfl (fun _=>?_))|(refine zAa xE cc13 xP rfl (fun y=>?_);obtain ⟨ya,yc⟩:=y)|(refine zAa xE cn xP rfl (fun p=>?_))|(refine zAa xE cL xP rfl (fun _=>?_)))|(refine zBp ?_;first|refine zAc (zAv rfl hwm) ?_|refine zAc (zAv rfl hB1) ?_)|(refine zBk ?_;refine zAc (zAi (r:=((n:Nat):Int)) rfl rfl (by omega) (by omega)) ?_)|(refine ek_rem ?_;refine zAc (Ev_rem_w rfl rfl (by omega) hm) ?_)|(refine zBe ?_;refine zAc (zAk (q:=true) rfl rfl rfl) ?_)|(refine zBh ?_;refine zAc (Ev_neqNil rfl hne) ?_)|refine xst ?_|(refine xsa ?_;intro _)|(refine xsb ?_ ?_ <;>intro _<;>try (exfalso;omega))|refine xsc ?_|fail)
  all_goals (exact xdn ())
 have hsn:(zAj r0).length≤234*layA n:=by omega
 obtain ⟨hrl0,hrs0⟩:=rows_room hsn (by omega)
 have cf:=fun (p:Nat) (ya:Option Addr) (yc:Nat)=>snewF_ct (W:=W) (F:=F) (d:=p) hE16 hE8 hN hn1 (by omega) (copP (ya,yc) first) ya yc first (Lv.own (e:=73) (c:=yc) enc_op rfl) (by omega) hr0 hsn
 have hfirst:=RdO.first hn1 (by omega) r0 hsn
 have cb1:Ct Tryz.prog W 21 [.slice none 0 0,.slice a first.length ac] [noP,A] (fun x:Option Addr × Nat=>.slice x.1 (zAu [] first).length x.2) (fun x=>[noP,A,ropP x (zAu [] first)]):=behind13_ct (W:=W) noP A none a 0 ac [] first (Lv.old rC_ok ⟨none,0,rfl,fun h=>absurd rfl h⟩) hA List.Pairwise.nil (Nat.zero_le _) (by omega)
 rw [hr0] at cb1
 have c12:=numA_ct hE hg 12 (by omega)
 refine Ct.enter Tryz.func4 rfl Tryz.ntmps4 (by simp) (fun R=>?_)
 refine KJ.noP ?_
 repeat' (first|(refine zAd ?_;first|(refine zAa xE cb1 xP rfl (fun x=>?_);obtain ⟨va,vc⟩:=x)|(refine zAa xE (cf _ _ _) xP rfl (fun _=>?_))|(refine zAa xE cc13 xP rfl (fun y=>?_);obtain ⟨ya,yc⟩:=y)|(refine zAa xE cn xP rfl (fun p=>?_))|(refine zAa xE cL xP rfl (fun _=>?_)))|(refine zBp ?_;first|refine zAc (zAv rfl hwm) ?_|refine zAc (zAv rfl hB1) ?_)|(refine zBk ?_;refine zAc (zAi (r:=((n:Nat):Int)) rfl rfl (by omega) (by omega)) ?_)|(refine ek_rem ?_;refine zAc (Ev_rem_w rfl rfl (by omega) hm) ?_)|refine xst ?_|(refine xsa ?_;intro _)|(refine xsb ?_ ?_ <;>intro _<;>try (exfalso;omega))|refine xsc ?_|fail)
 have hV:Lv W rC 2 (ropP (va,vc) r0) va r0:=Lv.own (e:=96) (c:=vc) rC_ok rfl
 have hI0:WhOk W n L ⟨0,1,r0,[],fmtD n r0,ropP (va,vc) r0,va,vc,none,0⟩:=⟨Nat.zero_le _,.inl ⟨r0,[],1,hfirst,⟨Nat.le_refl 1,Nat.le_refl 1⟩,Comes.nil hris0 hsn⟩,hV,⟨hris0,hsn⟩,LsAt_nil13 W,OpsFit.nil,by simp [cutsAt,sumW]⟩
 clear hfirst cf cb1 hsn0 hV
 refine zBz (fun x:{x:WhI//WhOk W n L x}=>[(2,.slice ca L.length cc),(7,.pointer (some ⟨p,0,none⟩)),(9,.slice x.1.xa x.1.r.length x.1.xc),(10,.slice x.1.oa x.1.fl.length x.1.oc),(11,.int .i64 (x.1.i:Nat))])
  (fun x=>[A,C,x.1.X,DiskP p x.1.D]++R) (fun x=>L.length+1-x.1.i) ⟨⟨0,1,r0,[],fmtD n r0,ropP (va,vc) r0,va,vc,none,0⟩,hI0⟩ xB (xN) (fun ⟨⟨i,mm,r,fl,D,X,xa,xc,oa,oc⟩,hI⟩=>?_)
 obtain ⟨hi,hD,hX,hris,hfl2,hfit,hmm⟩:=hI
 dsimp only at hi hD hX hris hfl2 hfit hmm ⊢
 clear hI0
 have hsw:=sumW_take_le lifeW L i
 have q1:decide (((i:Nat):Int)≤(L.length:Nat))=true:=decide_eq_true (by omega)
 refine KJ.noP ?_
 obtain ⟨rn,hrn,hrnD⟩:∃ rn,(rn=r∨rn=zAu r fl)∧OpA n mm rn D:=by
  rcases hD with h|h
  ·exact ⟨_,.inl rfl,h⟩
  ·exact ⟨_,.inr rfl,h⟩
 have hrisn:=hrnD.ris
 obtain ⟨hrln,hrsn⟩:=rows_room hrisn.2 (by omega)
 obtain ⟨hrl,hrs⟩:=rows_room hris.2 (by omega)
 have hfll:=hfit.len
 -- the cuts
 obtain ⟨ua,uc,cuts,hcu,hcl,hcx,hcuts⟩:∃ (ua:Option Addr) (uc:Nat) (cuts:List CutT),Lv W cutC 4 noP ua cuts∧cuts.length≤1048576∧(∀ t ∈ cuts,BoolsAt W (.slice t.ka t.kept.length t.kc) t.kept∧t.arm≤9223372036854775807)∧((i=0∧cuts=[]∧ua=none∧uc=0)∨(0<i∧∃ t,L[i-1]? = some t∧t.cuts=cuts∧t.ua=ua∧t.uc=uc)):=by
  by_cases h0:i=0
  ·exact ⟨none,0,[],Lv.old (c:=0) cutC_ok ⟨none,0,rfl,fun h=>absurd rfl h⟩,by simp,(fun t h=>by cases h),.inl ⟨h0,rfl,rfl,rfl⟩⟩
  ·obtain ⟨t,ht⟩:∃ s,L[i-1]? = some s:=⟨_,List.getElem?_eq_getElem (by omega)⟩
   have hok:=hx _ (List.mem_of_getElem? ht)
   have hcl:=sumW_mem lifeW (List.mem_of_getElem? ht)
   have hlw:lifeW t=t.commits.length+t.cuts.length+2:=rfl
   exact ⟨t.ua,t.uc,t.cuts,Lv.old cutC_ok hok.cut,by omega,hok.cuts,.inr ⟨by omega,t,ht,rfl,rfl,rfl⟩⟩
 have hcl2:cuts.length=(cutsAt L i).length:=by
  rcases hcuts with ⟨h0,h1,-⟩|⟨h0,t,ht,h1,-⟩
  ·unfold cutsAt;rw [if_pos h0,h1]
  ·unfold cutsAt;rw [if_neg (by omega),ht,← h1];rfl
 have cop:=opened13_ct (W:=W) (F:=F) (d:=p) hE hN hg hn1 (by omega) hrnD noP ua uc cuts hcu hcl (by omega) hcx
 have hX0:=hX
 apply KJ_rest (fun K=>∀ (s q g v used:Nat) (Dx:Dsk) (N:List Nd) (ta:Option Addr) (tb:Int),StA n (mm+cuts.length+1) rn ⟨p,q,g,v,used,Dx,N,ta,tb⟩→KJ W 119 K [(2,.slice ca L.length cc),(7,.pointer (some ⟨p,0,none⟩)),(9,.slice xa r.length xc),(10,.slice oa fl.length oc),(11,.int .i64 (i:Nat)),(13,.pointer (some ⟨s,0,none⟩))] ([A,C,X,noP,stP s p q n (v:Nat) (some ⟨g,0,none⟩) Dx.life false,DiskP p Dx,tbP q ta tb,arP N,jouU g p n v used Dx.life]++R))
 ·intro rest
  rcases hcuts with ⟨h0,h2,h3,h4⟩|⟨h0,t,ht,h2,h3,h4⟩
  ·have qg:decide ((0:Int)<((i:Nat):Int))=false:=decide_eq_false (by omega)
   have e:Value.slice ua cuts.length uc=.slice none 0 0:=by rw [h2,h3,h4];rfl
   rw [e] at cop
   repeat' (first|(refine at_seq_region (id:=18) ?_;refine hold ?_)|(refine zAd ?_;refine zAa xE cop xP rfl (fun y=>?_);obtain ⟨s,⟨⟨xd,q,g,v,used,Dx,N,ta,tb⟩,hSx,hxd⟩⟩:=y;dsimp only at hxd ⊢;subst xd)|(refine ek_leq ?_;refine zAc (Ev_leqI_q rfl rfl q1) ?_)|(refine zBa ?_;refine zAc (zAg rfl rfl qg) ?_)|refine xst ?_|(refine xsa ?_;intro _)|(refine xsb ?_ ?_ <;>intro _<;>try (exfalso;omega))|refine xsc ?_|fail)
   refine Hold.mk ?_
   exact KJ.weak (rest s q g v used Dx N ta tb hSx) xB (xN)
  ·have qg:decide ((0:Int)<((i:Nat):Int))=true:=decide_eq_true (by omega)
   obtain ⟨cb,co,ec⟩:=hca (by intro h;rw [h] at ht;simp at ht)
   have hsub:Go.RowKit.wrap64 (((i:Nat):Int)-1)=((i-1:Nat):Int):=by unfold Go.RowKit.wrap64;omega
   have hi1:i-1<L.length:=(List.getElem?_eq_some_iff.1 ht).1
   have ho1:co+Int.toNat ((i-1:Nat):Int)*7+6=co+(i-1)*7+6:=by rw [Int.toNat_natCast]
   have hv6:(lifeC t)[6]? = some (.slice ua cuts.length uc):=by rw [← h2,← h3,← h4];rfl
   repeat' (first|(refine at_seq_region (id:=18) ?_;refine hold ?_)|(refine zAd ?_;refine zAa xE cop xP rfl (fun y=>?_);obtain ⟨s,⟨⟨xd,q,g,v,used,Dx,N,ta,tb⟩,hSx,hxd⟩⟩:=y;dsimp only at hxd ⊢;subst xd)|(refine ek_move ?_;refine zAc (Ev_move_v rfl (show Value.slice ca L.length cc=.slice (some ⟨cb,co,none⟩) L.length cc by rw [ec])) ?_)|(refine zAh ?_;refine zAc (Ev_loadLvF lifeC_ok hC ec rfl xS ho1 ht hv6) ?_)|(refine ek_sub ?_;refine zAc (Ev_sub13 rfl rfl hsub) ?_)|(refine ek_leq ?_;refine zAc (Ev_leqI_q rfl rfl q1) ?_)|(refine zBa ?_;refine zAc (zAg rfl rfl qg) ?_)|refine xst ?_|(refine xsa ?_;intro _)|(refine xsb ?_ ?_ <;>intro _<;>try (exfalso;omega))|refine xsc ?_|fail)
   refine Hold.mk ?_
   exact KJ.weak (rest s q g v used Dx N ta tb hSx) xB (xN)
 intro s q g v used Dx N ta tb hSx
 have hT:=hSx.tab
 dsimp only at hT
 have crw:=srows_ct (W:=W) (s:=s) (d:=p) (q:=q) (n:=n) (b:=tb) (v:Nat) (some ⟨g,0,none⟩) Dx.life false hT (by omega)
 apply KJ_rest (fun K=>∀ (na:Option Addr) (nc:Nat),KJ W 119 K [(2,.slice ca L.length cc),(7,.pointer (some ⟨p,0,none⟩)),(11,.int .i64 (i:Nat)),(13,.pointer (some ⟨s,0,none⟩)),(14,.slice na rn.length nc)] ([A,C,ropP (na,nc) rn,stP s p q n (v:Nat) (some ⟨g,0,none⟩) Dx.life false,DiskP p Dx,tbP q ta tb,arP N,jouU g p n v used Dx.life]++R))
 ·intro rest
  rcases hrn with e|e
  ·have hX':Lv W rC 2 X xa rn:=by rw [e];exact hX
   have cse:∀ na nc,Ct Tryz.prog W 12 [.slice na rn.length nc,.slice xa r.length xc] [ropP (na,nc) rn,X] (fun _:Unit=>.bool true) (fun _=>[ropP (na,nc) rn,X]):=fun na nc=>by
    have h:=srows13_ct (W:=W) (ropP (na,nc) rn) X na xa nc xc rn (Lv.own (e:=96) (c:=nc) rC_ok rfl) hX' (by omega)
    have el:r.length=rn.length:=by rw [e]
    rw [el]
    exact h
   repeat' (first|(refine at_seq_region (id:=23) ?_;refine hold ?_)|(refine zAd ?_;first|(refine zAa xE (cse na nc) xP rfl (fun _=>?_))|(refine zAa xE crw xP rfl (fun x=>?_);obtain ⟨na,nc⟩:=x))|refine xst ?_|(refine xsa ?_;intro _)|(refine xsb ?_ ?_ <;>intro _<;>try (exfalso;omega))|refine xsc ?_|fail)
   refine Hold.mk ?_
   exact KJ.weak (rest na nc) xB (xN)
  ·have csa:=fun na nc=>samA_ct (W:=W) (ropP (na,nc) rn) X na xa nc xc rn r (Lv.own (e:=96) (c:=nc) rC_ok rfl) hX (by omega)
   have cb2:=behind13_ct (W:=W) X noP xa oa xc oc r fl hX (Lv.old enc_op hfl2) hris.1 (by omega) (by omega)
   rw [← e] at cb2
   have cse:∀ na nc va vc,Ct Tryz.prog W 12 [.slice na rn.length nc,.slice va rn.length vc] [ropP (na,nc) rn,ropP (va,vc) rn] (fun _:Unit=>.bool true) (fun _=>[ropP (na,nc) rn,ropP (va,vc) rn]):=fun na nc va vc=>srows13_ct (W:=W) (ropP (na,nc) rn) (ropP (va,vc) rn) na va nc vc rn (Lv.own (e:=96) (c:=nc) rC_ok rfl) (Lv.own (e:=96) (c:=vc) rC_ok rfl) (by omega)
   repeat' (first|(refine at_seq_region (id:=21) ?_;refine hold ?_)|(refine zAd ?_;refine zAa xE crw xP rfl (fun x=>?_);obtain ⟨na,nc⟩:=x)|refine xst ?_|(refine xsa ?_;intro _)|(refine xsb ?_ ?_ <;>intro _<;>try (exfalso;omega))|refine xsc ?_|fail)
   refine Hold.mk ?_
   repeat' (first|(refine at_seq_region (id:=23) ?_;refine hold ?_)|(refine zAd ?_;first|(refine zAa xE (cse na nc _ _) xP rfl (fun _=>?_))|(refine zAa xE cb2 xP rfl (fun x=>?_);obtain ⟨va,vc⟩:=x)|(refine zAa xE (csa na nc) xP rfl (fun b=>?_);cases b))|refine xst ?_|(refine xsa ?_;intro _)|(refine xsb ?_ ?_ <;>intro _<;>try (exfalso;omega))|refine xsc ?_|fail)
   all_goals refine Hold.mk ?_
   all_goals exact KJ.weak (rest na nc) xB (xN)
 intro na nc
 by_cases hend:i=L.length
 ·have qe:decide (((i:Nat):Int)=(L.length:Nat))=true:=decide_eq_true (by omega)
  repeat' (first|(refine zBe ?_;refine zAc (zAk rfl rfl qe) ?_)|refine xst ?_|(refine xsa ?_;intro _)|(refine xsb ?_ ?_ <;>intro _<;>try (exfalso;omega))|refine xsc ?_|fail)
  all_goals (exact xdn ())
 have qe:decide (((i:Nat):Int)=(L.length:Nat))=false:=decide_eq_false (by omega)
 obtain ⟨t,ht⟩:∃ s,L[i]? = some s:=⟨_,List.getElem?_eq_getElem (by omega)⟩
 have hok:=hx _ (List.mem_of_getElem? ht)
 obtain ⟨cb,co,ec⟩:=hca (by intro h;rw [h] at ht;simp at ht)
 have hsum:sumW lifeW (L.take (i+1))=sumW lifeW (L.take i)+lifeW t:=by
  rw [List.take_add_one,ht,sumW_append]
  rfl
 have hsw2:=sumW_take_le lifeW L (i+1)
 have hlw:lifeW t=t.commits.length+t.cuts.length+2:=rfl
 have hcn:cutsAt L (i+1)=t.cuts:=by
  unfold cutsAt
  rw [if_neg (by omega),Nat.add_sub_cancel,ht]
  rfl
 have clv:=lived13_ct (W:=W) (F:=F) (s:=s) (d:=p) hE hN hg hn1 (by omega) q g v used Dx N ta tb hSx (ropP (na,nc) rn) na nc (Lv.own (e:=96) (c:=nc) rC_ok rfl) t hok (by omega)
 have ho3:co+Int.toNat ((i:Nat):Int)*7=co+i*7:=by rw [Int.toNat_natCast]
 have ho4:co+Int.toNat ((i:Nat):Int)*7+3=co+i*7+3:=by rw [Int.toNat_natCast]
 unfold stL at clv
 dsimp only at clv
 repeat' (first|(refine at_seq_region (id:=27) ?_;refine hold ?_)|(refine zAd ?_;refine zAa xE clv xP rfl (fun y=>?_))|(refine ek_move ?_;refine zAc (Ev_move_v rfl (show Value.slice ca L.length cc=.slice (some ⟨cb,co,none⟩) L.length cc by rw [ec])) ?_)|(refine zAh ?_;refine zAc (zCc lifeC_ok hC ec rfl xS ho3 ht) ?_)|(refine zBe ?_;refine zAc (zAk rfl rfl qe) ?_)|refine xst ?_|(refine xsa ?_;intro _)|(refine xsb ?_ ?_ <;>intro _<;>try (exfalso;omega))|refine xsc ?_|fail)
 refine Hold.mk ?_
 obtain ⟨⟨r2,X2,xa2,xc2,oa2,oc2,fl2,q2,v2,lg2,life2,dead2,D2,N2,ta2,tb2⟩,hL2⟩:=y
 have hopen:=hL2.open_ t.kept t.torn t.bytes
 have hdown:=hL2.down t.kept t.torn t.bytes
 have hund:=hL2.und
 have ccr:=crash_old (W:=W) (p:=p) (D:=D2) t.torn t.bytes hok.kept (by dsimp only at hund;omega)
 obtain ⟨D3,hD3⟩:∃ D3,D3=D2.crash t.kept t.torn t.bytes:=⟨_,rfl⟩
 dsimp only at hopen hdown ⊢
 rw [← hD3] at hopen hdown ccr
 clear hD3
 have cco:=fun gb=>scommitD_ct (W:=W) (F:=F) (s:=s) (d:=p) (q:=q2) (n:=n) (D:=D3) hE8 v2 lg2 life2 dead2 hdown (zAq gb [.bool false,strV [120],strV []] 73) (some ⟨gb,0,none⟩) 1 1
 have cca:=scompactD_ct (W:=W) (F:=F) (s:=s) (d:=p) (q:=q2) (n:=n) (D:=D3) hE8 v2 lg2 life2 true (by simp [zCg])
 have hcutF:Cut (lifeC t) 3 3 [.slice t.ka t.kept.length t.kc,.int .i64 t.torn,.int .i64 t.bytes]:=by unfold lifeC;exact xC
 repeat' (first|(refine zAd ?_;first|(refine zAa xE c12 xP rfl (fun _=>?_))|(refine zAa xE cca xP rfl (fun _=>?_))|(refine zAa xE (cco _) xP rfl (fun _=>?_))|(refine KJ_call0 xE ccr xP (fun _=>?_))|(refine zAa xE ccr xP rfl (fun _=>?_)))|(refine zCi ?_;refine KJ_bslice1 rfl xF (by rfl) (by omega) rfl (fun gb=>?_))|(refine ek_move ?_;refine zAc (Ev_move_v rfl (show Value.slice ca L.length cc=.slice (some ⟨cb,co,none⟩) L.length cc by rw [ec])) ?_)|(refine zAh ?_;refine zAc (Ev_loadLvX lifeC_ok hC ec rfl xS ho4 ht hcutF) ?_)|(refine ek_build ?_;refine zAc (Ev_build xV xW) ?_)|(refine zBk ?_;refine zAc (zAi (r:=((i+1:Nat):Int)) rfl rfl (by omega) (by omega)) ?_)|(refine zBh ?_;refine zAc (Ev_neqI_q (q:=false) rfl rfl rfl) ?_)|refine xst ?_|(refine xsa ?_;intro _)|(refine xsb ?_ ?_ <;>intro _<;>try (exfalso;omega))|refine xsc ?_|fail)
 all_goals refine zBd ⟨⟨i+1,mm+cuts.length+1+2*t.commits.length,r2,fl2,D3,X2,xa2,xc2,oa2,oc2⟩,⟨by dsimp only;omega,hopen,hL2.rows,hL2.ris,hL2.fl,hL2.fit,by dsimp only;rw [hcn,hsum];omega⟩⟩ (by show L.length+1-(i+1)<L.length+1-i;omega) xB (xN)
theorem whole13_law (hE:ErrsAt W F) (hN:NibAt W) (hg:gB≤W.heap.size) (nI:Int) (a ca:Option Addr) (ac cc:Nat) (first:List BOp) (L:List LifeT) (hA:Lv W opC 3 noP a first) (hC:LsAt W lifeC 7 (.slice ca L.length cc) L) (hf:OpsFit first) (hLl:L.length≤1048576) (hw:sumW lifeW L≤1048576) (hx:∀ x ∈ L,LifeOk W x) :
 Ct Tryz.prog W 4 [.int .i64 nI,.slice a first.length ac,.slice ca L.length cc] [] (fun _:Unit=>.bool true) (fun _=>[]):=Ct.noP14 (whole13_ct hE hN hg nI noP noP a ca ac cc first L hA (Lv.old lifeC_ok hC) hf hLl hw hx (fun hne=>by
 obtain ⟨a',c',hv,hx⟩:=hC
 cases hv
 obtain ⟨b,o,ha,-⟩:=hx hne
 exact ⟨b,o,ha⟩))
end
end Go.Proofs.YtnkhohfbijkohaaGreatDoor
