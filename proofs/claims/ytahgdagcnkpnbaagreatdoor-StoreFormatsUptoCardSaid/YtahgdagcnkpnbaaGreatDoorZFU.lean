/-
  StX1, StQ1, StX2, StX3.
-/
import Derived.Test.YtahgdagcnkpnbaaGreatDoorZEN
import Derived.Test.YtahgdagcnkpnbaaGreatDoorZEL
import Derived.Test.YtahgdagcnkpnbaaGreatDoorZFD
import Derived.Test.YtahgdagcnkpnbaaGreatDoorZFT
set_option maxHeartbeats 64000000
namespace Go.Proofs.YtahgdagcnkpnbaaGreatDoor
open Go Go.RowKit
abbrev plZFU0:Pl:=(.op 0 (.op 1 (.op 2 (.op 3 (.op 4 (.op 5 (.op 6 (.op 7 (.op 8 (.ef 9 [4,3,2,1,0] (.op 10 (.op 11 .nil))))))))))))
abbrev plZFU1:Pl:=(.op 0 (.op 1 (.op 2 (.op 3 (.op 4 (.op 5 (.op 6 (.op 7 (.op 8 (.op 9 (.op 10 (.op 11 (.op 12 (.op 13 (.op 14 (.op 15 (.op 16 (.op 17 (.op 18 (.op 19 (.ef 20 [] (.op 21 (.op 22 (.op 23 (.op 24 (.op 25 (.op 26 (.op 27 (.op 28 (.ef 29 [27,26,25,24,23] (.ef 30 [] (.op 31 (.op 32 .nil)))))))))))))))))))))))))))))))))
abbrev plZFU2:Pl:=(.op 0 (.op 1 (.op 2 (.op 3 (.op 4 (.op 5 (.op 6 (.op 7 (.op 8 (.op 9 (.op 10 (.op 11 (.op 12 (.op 13 (.op 14 (.ef 15 [] (.op 16 (.op 17 (.op 18 (.op 19 (.op 20 .nil)))))))))))))))))))))
abbrev plZFU3:Pl:=(.op 0 (.op 1 (.op 2 (.ef 3 [1,0] (.op 4 (.op 5 (.op 6 (.op 7 (.op 8 (.op 9 (.ef 10 [] (.op 11 (.op 12 (.op 13 .nil))))))))))))))
section
variable {W:World} {F:Nat→Addr} {N:List Nd} {a:Option Addr} {r:Rows} {q s d n:Nat} {b:Int} {D:Dsk}
theorem sfoldA_ct (hE:ErrsOn L8 W F) (hN:NibAt W) (h1:64≤n) (h2:n≤65536) (v:Nat) (hv:v+1≤1099511627776) (lg:Option Addr) (life:Int) (dead:Bool) (hT:TbOk N a r) (hn:D.n=n) (hr:(zAp r).length≤234*layA n) (hul:D.und.length+65536<1073741823)
 (hA:(zCd D (zBq n (v+1)) (layA n) ((v+1:Nat):Int) (zAp r)).1=12) :
 Ct Tryz.prog W 100 [.pointer (some ⟨s,0,none⟩)] [stP s d q n (v:Nat) lg life dead,DiskP d D,tbP q a b,arP N] (fun _:Unit=>errV F 12)
  (fun _=>[stP s d q n (v:Nat) lg life true,DiskP d (fldA D n (v+1) r),tbP q a b,arP N]):=by
 have e12:W.cell? ⟨3,0,none⟩=some (errV F 12):=hE.at_ 12 (by decide)
 have hne:=errNe (F:=F) (e:=12) (by omega)
 obtain ⟨f1,f2,f3,f4⟩:=lay_fit h1 (v+1)
 have hA2:=layA_le h2
 have cs:=snapshot_ct (W:=W) (p:=q) (b:=b) hT (by omega)
 have cA:Ct Tryz.prog W 154 [.pointer (some ⟨d,0,none⟩),.int .i64 (zBq n (v+1):Nat),.int .i64 (layA n:Nat),.int .u64 ((v+1:Nat):Int),strV (zAp r)] [DiskP d D] (fun _:Unit=>errV F 12) (fun _=>[DiskP d (fldA D n (v+1) r)]):=by
  have:=awrite_ct (W:=W) (p:=d) (D:=D) hE hN (by omega) hul (zBq n (v+1):Nat) (layA n:Nat) ((v+1:Nat):Int) (zAp r)
  rw [hA] at this
  exact this
 obtain ⟨D1,hD1⟩:∃ D1,D1=fldA D n (v+1) r:=⟨_,rfl⟩
 rw [← hD1] at cA ⊢
 clear hA hD1
 have csz:Ct Tryz.prog W 97 [.pointer (some ⟨d,0,none⟩)] [DiskP d D] (fun _:Unit=>.int .i64 (n:Nat)) (fun _=>[DiskP d D]):=by
  have:=size_ct (W:=W) (p:=d) (D:=D)
  rw [hn] at this
  exact this
 obtain ⟨L,hL⟩:∃ L,L=zAp r:=⟨_,rfl⟩
 rw [← hL] at hr cs cA
 clear hL
 have cn:=wnew_ct (W:=W)
 have cu1:∀ g,Ct Tryz.prog W 153 [.pointer (some ⟨g,0,none⟩),.int .u64 (n:Nat)] [WrP g []] (fun _:Unit=>.tuple #[]) (fun _=>[WrP g (vu n)]):=fun g=>by
  have:=wuint_ct (W:=W) (p:=g) (l:=[]) n (by omega) (by simp)
  rw [List.nil_append] at this
  exact this
 have hvn:=vu_len n
 have hvp:=vu_pos n
 have cu2:∀ g,Ct Tryz.prog W 153 [.pointer (some ⟨g,0,none⟩),.int .u64 (L.length:Nat)] [WrP g (vu n)] (fun _:Unit=>.tuple #[]) (fun _=>[WrP g (hdrB n L.length)]):=fun g=>wuint_ct (W:=W) (p:=g) (l:=vu n) L.length (by omega) (by omega)
 have co:∀ g,Ct Tryz.prog W 156 [.pointer (some ⟨g,0,none⟩)] [WrP g (hdrB n L.length)] (fun _:Unit=>strV (hdrB n L.length)) (fun _=>[WrP g (hdrB n L.length)]):=fun g=>wout_ct (W:=W) (by unfold hdrB;rw [List.length_append];omega)
 have w1:IntKind.u64.wrap ((n:Nat):Int)=((n:Nat):Int):=zBt _ (by omega)
 have w2:IntKind.u64.wrap ((L.length:Nat):Int)=((L.length:Nat):Int):=zBt _ (by omega)
 have w3:IntKind.u64.wrap ((v+1:Nat):Int)=((v+1:Nat):Int):=zBt _ (by omega)
 have q0:decide ((1099511627776:Int)≤(v:Nat))=false:=decide_eq_false (by omega)
 have fin:∀ m:Nat,((v+1:Nat):Int) % 2=(m:Nat)→(stC d q n (v:Nat) lg life dead)[0+1+0+((m:Nat):Int).toNat*1]? = some (.int .i64 (zBq n (v+1):Nat)):=fun m hm=>by
  unfold zBq
  rcases (show m=0∨m=1 by omega) with rfl|rfl
  ·rw [if_pos (by omega)];rfl
  ·rw [if_neg (by omega)];rfl
 obtain ⟨m,hm⟩:∃ m:Nat,((v+1:Nat):Int) % 2=(m:Nat):=⟨(v+1) % 2,by omega⟩
 have hx:=fin m hm
 have hm2:m<2:=by omega
 clear fin
 refine Ct.enter Tryz.func100 rfl Tryz.ntmps100 (by simp) (fun R=>?_)
 repeat' (first|(refine zAd ?_;first|(refine zAa xE cA xP rfl (fun _=>?_))|(refine zAa xE (co _) xP rfl (fun _=>?_))|(refine zAa xE (cu2 _) xP rfl (fun _=>?_))|(refine zAa xE (cu1 _) xP rfl (fun _=>?_))|(refine zAa xE csz xP rfl (fun _=>?_))|(refine zAa xE cn xP rfl (fun pw=>?_))|(refine zAa xE cs xP rfl (fun _=>?_)))|(refine zAj ?_;first|refine zAc (Ev_load rfl xS hx) ?_|refine zAc (zAn rfl e12) ?_)|(refine zBh ?_;first|refine zAc (zAu rfl w3) ?_|refine zAc (zAu rfl w2) ?_|refine zAc (zAu rfl w1) ?_)|(refine zBg ?_;refine zAc (zAh (r:=((v+1:Nat):Int)) rfl rfl (by omega) (by omega)) ?_)|(refine ek_rem ?_;refine zAc (Ev_rem_w rfl rfl (by omega) hm) ?_)|(refine zBa ?_;refine zAc (Ev_neqNil rfl hne) ?_)|(refine ek_geq ?_;refine zAc (zBe rfl rfl q0) ?_)|refine xst ?_|(refine xsa ?_;intro _)|(refine xsb ?_ ?_ <;>intro _<;>try (exfalso;omega))|refine xsc ?_|(refine zAb (id:=3) plZFU0 (by kernel_rfl) (by kernel_rfl) ?_)|(refine zAb (id:=7) plZFU1 (by kernel_rfl) (by kernel_rfl) ?_)|(refine zAb (id:=10) plZFU2 (by kernel_rfl) (by kernel_rfl) ?_)|refine zAm ?_ ?_|refine zAk rfl rfl rfl rfl rfl ?_ ?_|refine zAf ?_ ?_|exact Rech.nil|fail)
 all_goals (exact xdn ())
theorem sfoldS_ct (hE:ErrsOn L8 W F) (hN:NibAt W) (h1:64≤n) (h2:n≤65536) (v:Nat) (hv:v+1≤1099511627776) (lg:Option Addr) (life:Int) (dead:Bool) (hT:TbOk N a r) (hn:D.n=n) (hr:(zAp r).length≤234*layA n) (hul:D.und.length+65536<1073741823)
 (hA:(zCd D (zBq n (v+1)) (layA n) ((v+1:Nat):Int) (zAp r)).1=0) (hu2:(fldA D n (v+1) r).und=[]) (hn2:(fldA D n (v+1) r).n=n) (hS:slotWE (fldA D n (v+1) r) 0 ((v+1:Nat):Int) (hdrB n (zAp r).length)=12) :
 Ct Tryz.prog W 100 [.pointer (some ⟨s,0,none⟩)] [stP s d q n (v:Nat) lg life dead,DiskP d D,tbP q a b,arP N] (fun _:Unit=>errV F 12)
  (fun _=>[stP s d q n (v:Nat) lg life true,DiskP d (fldD D n (v+1) r),tbP q a b,arP N]):=by
 have e12:W.cell? ⟨3,0,none⟩=some (errV F 12):=hE.at_ 12 (by decide)
 have hne:=errNe (F:=F) (e:=12) (by omega)
 obtain ⟨f1,f2,f3,f4⟩:=lay_fit h1 (v+1)
 have hA2:=layA_le h2
 have cs:=snapshot_ct (W:=W) (p:=q) (b:=b) hT (by omega)
 have cA:Ct Tryz.prog W 154 [.pointer (some ⟨d,0,none⟩),.int .i64 (zBq n (v+1):Nat),.int .i64 (layA n:Nat),.int .u64 ((v+1:Nat):Int),strV (zAp r)] [DiskP d D] (fun _:Unit=>.nilIface) (fun _=>[DiskP d (fldA D n (v+1) r)]):=by
  have:=awrite_ct (W:=W) (p:=d) (D:=D) hE hN (by omega) hul (zBq n (v+1):Nat) (layA n:Nat) ((v+1:Nat):Int) (zAp r)
  rw [hA] at this
  exact this
 have cW:Ct Tryz.prog W 155 [.pointer (some ⟨d,0,none⟩),.int .i64 0,.int .i64 ((v+1:Nat):Int),strV (hdrB n (zAp r).length)] [DiskP d (fldA D n (v+1) r)] (fun _:Unit=>errV F 12) (fun _=>[DiskP d (fldD D n (v+1) r)]):=by
  have:=swrite_ct (W:=W) (p:=d) (D:=fldA D n (v+1) r) hE hN (by omega) (by rw [hu2];simp) 0 ((v+1:Nat):Int) (hdrB n (zAp r).length)
  rw [hS] at this
  exact this
 obtain ⟨D1,hD1⟩:∃ D1,D1=fldA D n (v+1) r:=⟨_,rfl⟩
 obtain ⟨D2,hD2⟩:∃ D2,D2=fldD D n (v+1) r:=⟨_,rfl⟩
 rw [← hD1,← hD2] at cW
 rw [← hD1] at cA
 rw [← hD2]
 clear hA hS hD1 hD2 hu2 hn2
 have csz:Ct Tryz.prog W 97 [.pointer (some ⟨d,0,none⟩)] [DiskP d D] (fun _:Unit=>.int .i64 (n:Nat)) (fun _=>[DiskP d D]):=by
  have:=size_ct (W:=W) (p:=d) (D:=D)
  rw [hn] at this
  exact this
 obtain ⟨L,hL⟩:∃ L,L=zAp r:=⟨_,rfl⟩
 rw [← hL] at hr cs cA cW
 clear hL
 have cn:=wnew_ct (W:=W)
 have cu1:∀ g,Ct Tryz.prog W 153 [.pointer (some ⟨g,0,none⟩),.int .u64 (n:Nat)] [WrP g []] (fun _:Unit=>.tuple #[]) (fun _=>[WrP g (vu n)]):=fun g=>by
  have:=wuint_ct (W:=W) (p:=g) (l:=[]) n (by omega) (by simp)
  rw [List.nil_append] at this
  exact this
 have hvn:=vu_len n
 have hvp:=vu_pos n
 have cu2:∀ g,Ct Tryz.prog W 153 [.pointer (some ⟨g,0,none⟩),.int .u64 (L.length:Nat)] [WrP g (vu n)] (fun _:Unit=>.tuple #[]) (fun _=>[WrP g (hdrB n L.length)]):=fun g=>wuint_ct (W:=W) (p:=g) (l:=vu n) L.length (by omega) (by omega)
 have co:∀ g,Ct Tryz.prog W 156 [.pointer (some ⟨g,0,none⟩)] [WrP g (hdrB n L.length)] (fun _:Unit=>strV (hdrB n L.length)) (fun _=>[WrP g (hdrB n L.length)]):=fun g=>wout_ct (W:=W) (by unfold hdrB;rw [List.length_append];omega)
 have w1:IntKind.u64.wrap ((n:Nat):Int)=((n:Nat):Int):=zBt _ (by omega)
 have w2:IntKind.u64.wrap ((L.length:Nat):Int)=((L.length:Nat):Int):=zBt _ (by omega)
 have w3:IntKind.u64.wrap ((v+1:Nat):Int)=((v+1:Nat):Int):=zBt _ (by omega)
 have q0:decide ((1099511627776:Int)≤(v:Nat))=false:=decide_eq_false (by omega)
 have fin:∀ m:Nat,((v+1:Nat):Int) % 2=(m:Nat)→(stC d q n (v:Nat) lg life dead)[0+1+0+((m:Nat):Int).toNat*1]? = some (.int .i64 (zBq n (v+1):Nat)):=fun m hm=>by
  unfold zBq
  rcases (show m=0∨m=1 by omega) with rfl|rfl
  ·rw [if_pos (by omega)];rfl
  ·rw [if_neg (by omega)];rfl
 obtain ⟨m,hm⟩:∃ m:Nat,((v+1:Nat):Int) % 2=(m:Nat):=⟨(v+1) % 2,by omega⟩
 have hx:=fin m hm
 have hm2:m<2:=by omega
 clear fin
 refine Ct.enter Tryz.func100 rfl Tryz.ntmps100 (by simp) (fun R=>?_)
 repeat' (first|(refine zAd ?_;first|(refine zAa xE cW xP rfl (fun _=>?_))|(refine zAa xE cA xP rfl (fun _=>?_))|(refine zAa xE (co _) xP rfl (fun _=>?_))|(refine zAa xE (cu2 _) xP rfl (fun _=>?_))|(refine zAa xE (cu1 _) xP rfl (fun _=>?_))|(refine zAa xE csz xP rfl (fun _=>?_))|(refine zAa xE cn xP rfl (fun pw=>?_))|(refine zAa xE cs xP rfl (fun _=>?_)))|(refine zAj ?_;first|refine zAc (Ev_load rfl xS hx) ?_|refine zAc (zAn rfl e12) ?_)|(refine zBh ?_;first|refine zAc (zAu rfl w3) ?_|refine zAc (zAu rfl w2) ?_|refine zAc (zAu rfl w1) ?_)|(refine zBg ?_;refine zAc (zAh (r:=((v+1:Nat):Int)) rfl rfl (by omega) (by omega)) ?_)|(refine ek_rem ?_;refine zAc (Ev_rem_w rfl rfl (by omega) hm) ?_)|(refine zBa ?_;refine zAc (Ev_neqNil rfl hne) ?_)|(refine ek_geq ?_;refine zAc (zBe rfl rfl q0) ?_)|refine xst ?_|(refine xsa ?_;intro _)|(refine xsb ?_ ?_ <;>intro _<;>try (exfalso;omega))|refine xsc ?_|(refine zAb (id:=3) plZFU0 (by kernel_rfl) (by kernel_rfl) ?_)|(refine zAb (id:=7) plZFU1 (by kernel_rfl) (by kernel_rfl) ?_)|(refine zAb (id:=10) plZFU2 (by kernel_rfl) (by kernel_rfl) ?_)|refine zAm ?_ ?_|refine zAk rfl rfl rfl rfl rfl ?_ ?_|refine zAf ?_ ?_|exact Rech.nil|fail)
 all_goals (exact xdn ())
end
end Go.Proofs.YtahgdagcnkpnbaaGreatDoor
namespace Go.Proofs.YtahgdagcnkpnbaaGreatDoor
open Go Go.RowKit
theorem Old.zero:Old 0 (zs 256):=⟨zs_old1.len,zs_old1.tail⟩
theorem aw_off (stamp:Int) (at_:Nat):∀ (f:Nat) (D:Dsk) (i:Nat) (v:List UInt8),D.off=false→D.ok→v.length≤234*f→at_+i+nsec v.length≤D.n→
 ((awGo at_ stamp f D i v).1=12→(awGo at_ stamp f D i v).2.off=true)∧(awGo at_ stamp f D i v).2.life=D.life:=by
 have hnil:∀ (f:Nat) (D:Dsk) (i:Nat),D.off=false→((awGo at_ stamp f D i []).1=12→(awGo at_ stamp f D i []).2.off=true)∧(awGo at_ stamp f D i []).2.life=D.life:=by
  intro f D i ho
  rw [awGo_nil]
  exact fl_off ho
 intro f
 induction f with
 |zero=>
  intro D i v ho hk hv hn
  have:v=[]:=List.length_eq_zero_iff.1 (by omega)
  subst this
  exact hnil 0 D i ho
 |succ f ih=>
  intro D i v ho hk hv hn
  by_cases h0:v=[]
  ·subst h0;exact hnil (f+1) D i ho
  have hp:=List.length_pos_iff.2 h0
  have hn':at_+i<D.n∧at_+(i+1)+nsec (v.drop 234).length≤D.n:=by
   rw [List.length_drop]
   unfold nsec at hn ⊢
   omega
  have hS:=zBd stamp (v.take 234) (by rw [List.length_take];omega)
  obtain ⟨w1,w2,w3,w4,w5⟩:=write_ways ho (at_+i) hn'.1 _ hS
  obtain ⟨x1,x2⟩:=wr_off ho (at_+i) hn'.1 _ hS
  have hok:=Dsk.writeD_ok hk ((at_+i:Nat):Int) (zAs stamp (v.take 234))
  have hu:awGo at_ stamp (f+1) D i v=if D.writeE ((at_+i:Nat):Int) (zAs stamp (v.take 234))≠0 then (D.writeE ((at_+i:Nat):Int) (zAs stamp (v.take 234)),D.writeD ((at_+i:Nat):Int) (zAs stamp (v.take 234)))
   else awGo at_ stamp f (D.writeD ((at_+i:Nat):Int) (zAs stamp (v.take 234))) ((i+1:Nat):Int) (v.drop 234):=by
   show (if v=[] then _ else _)=_
   rw [if_neg h0]
   rfl
  rw [hu]
  clear hu
  rcases w1 with ⟨a,b⟩|a
  ·rw [if_neg (by rw [a];simp)]
   obtain ⟨r1,r2⟩:=ih (D.writeD ((at_+i:Nat):Int) (zAs stamp (v.take 234))) (i+1) (v.drop 234) b hok (by rw [List.length_drop];omega) (by rw [w4];exact hn'.2)
   exact ⟨r1,by rw [r2,x2]⟩
  ·rw [if_pos (by rw [a];simp)]
   exact ⟨fun _=>x1 a,x2⟩
theorem crash_sec (D:Dsk) (kept:List Bool) (torn bytes:Int) (i:Nat):(D.crash kept torn bytes).sec i=cut (zCe D.img (cutP (done kept torn bytes) D.und 0)) (i*256) 256:=by
 unfold Dsk.sec
 show cut (layDone _ _ _ _ _) _ _=_
 rw [layDone_eq]
theorem still_crash {D:Dsk} (h:Still D) (kept:List Bool) (torn bytes:Int) (i:Nat):(D.crash kept torn bytes).sec i=D.sec i:=by
 unfold Dsk.sec
 rw [crash_clean D h.und]
theorem crash_rest {D:Dsk} (h:D.ok) (kept:List Bool) (torn bytes:Int):Rest (D.crash kept torn bytes):=⟨crash_calm D kept torn bytes,rfl,Dsk.crash_ok h kept torn bytes⟩
theorem area_ways {D:Dsk} (h:Still D) (a n s:Nat) (v:List UInt8) (ha:a+n≤D.n) (hs:1≤s) (hv:v.length≤234*n) (hn:n≤65536) :
 (((zCd D a n s v).1=0∧Still (zCd D a n s v).2∧
  (∀ k,234*k<v.length→(zCd D a n s v).2.sec (a+k)=zAs s ((v.drop (234*k)).take 234))∧∀ j,j<D.n→(j<a∨a+n≤j)→(zCd D a n s v).2.sec j=D.sec j)∨
  ((zCd D a n s v).1=12∧(zCd D a n s v).2.off=true∧∀ kept torn bytes j,j<D.n→(j<a∨a+n≤j)→((zCd D a n s v).2.crash kept torn bytes).sec j=D.sec j))∧
 (zCd D a n s v).2.n=D.n∧(zCd D a n s v).2.ok∧(zCd D a n s v).2.life=D.life∧(zCd D a n s v).2.und.length≤n:=by
 have hns:nsec v.length≤n:=by unfold nsec;omega
 have hlen:=h.ok.len
 have e1:zCd D a n s v=awGo ((a:Nat):Int) (s:Nat) v.length D ((0:Nat):Int) v:=by
  unfold zCd
  have hm:D.mayB a n=true:=by unfold Dsk.mayB;exact decide_eq_true (by omega)
  have hroom:roomI n=234*n:=by unfold roomI;omega
  rw [if_neg (by rw [hm];simp),if_neg (by omega),if_neg (by rw [hroom];omega),if_neg (by rw [h.on];simp)]
  rfl
 obtain ⟨w1,w2,w3,-⟩:=aw_ways (s:Nat) a v.length D 0 v h.on h.ok (by omega) (by omega)
 obtain ⟨x1,x2⟩:=aw_off (s:Nat) a v.length D 0 v h.on h.ok (by omega) (by omega)
 rw [← e1] at w1 w2 w3 x1 x2
 clear e1
 obtain ⟨r,hr⟩:∃ r,r=zCd D a n s v:=⟨_,rfl⟩
 rw [← hr] at w1 w2 w3 x1 x2 ⊢
 clear hr
 simp only [h.und,List.nil_append,Nat.add_zero] at w1
 have hin:=pcs_in (s:Nat) v.length a v
 have hpl:=pcs_length (s:Nat) v.length a v
 have hpk:∀ k,((v.drop (234*k)).take 234).length≤234:=fun k=>by rw [List.length_take];omega
 have hsl:∀ j,j<D.n→(D.sec j).length=256:=fun j hj=>cut_length _ _ _ (by omega)
 refine ⟨?_,w2,w3,x2,?_⟩
 ·rcases w1 with ⟨q1,q2,q3,q4⟩|⟨q1,q2,m,q3⟩
  ·left
   have himg:r.2.img=zCe D.img (cutP (fun _=>256) ((pcs (s:Nat) v.length a v).take (pcs (s:Nat) v.length a v).length) 0):=by
    rw [q4,List.take_of_length_le (Nat.le_refl _),cutP_full _ (fun _=>rfl) _ _ (fun x hx=>(hin x hx).2.2)]
   refine ⟨q1,⟨q2,q3,w3⟩,fun k hk=>?_,fun j hj hout=>?_⟩
   ·obtain ⟨d,a1,a2,a3⟩:=torn_pcs (s:Nat) D.n (fun _=>256) (fun _=>Nat.le_refl _) v.length a (pcs (s:Nat) v.length a v).length 0 v D.img hlen (by omega) k hk
    have hd:=a3 (fun _=>rfl) (by omega) (Nat.le_refl _)
    have hjk:a+k<D.n:=by omega
    show cut r.2.img _ _=_
    rw [himg,a2,hd]
    exact torn_full _ _ (zBd _ _ (hpk k)) (hsl _ hjk)
   ·show cut r.2.img _ _=_
    rw [q4]
    refine layAll_off D.n j _ _ hlen fun x hx=>?_
    obtain ⟨c1,c2,c3⟩:=hin x hx
    exact ⟨by omega,by omega,by omega⟩
  ·right
   refine ⟨q1,x1 q1,fun kept torn bytes j hj hout=>?_⟩
   rw [crash_sec,q2,q3]
   refine layAll_off D.n j _ _ hlen fun x hx=>?_
   obtain ⟨y,hy,b1,b2⟩:=cutP_in _ _ _ _ hx
   obtain ⟨c1,c2,c3⟩:=hin y (List.mem_of_mem_take hy)
   exact ⟨by omega,by omega,by omega⟩
 ·rcases w1 with ⟨_,_,q,_⟩|⟨_,_,m,q⟩
  ·rw [q];simp
  ·rw [q,List.length_take];omega
theorem slot_ok {D:Dsk} (h:D.ok) (a v:Int) (s:List UInt8):(zBw D a v s).ok:=by
 unfold zBw slotW1
 split
 ·exact h
 split
 ·exact h
 split
 ·exact Dsk.writeD_ok h _ _
 ·exact Dsk.flushD_ok (Dsk.writeD_ok h _ _)
theorem slot_ways {D:Dsk} (h:Still D) (a v:Nat) (s:List UInt8) (ha:a+2≤D.n) (hv:1≤v) (hv2:v≤1099511627776) (hs:s.length≤234) :
 ((slotWE D a v s=0∧Still (zBw D a v s)∧(zBw D a v s).sec (a+v % 2)=zAs v s∧∀ j,j<D.n→j≠a+v % 2→(zBw D a v s).sec j=D.sec j)∨
   (slotWE D a v s=12∧(zBw D a v s).off=true∧∀ kept torn bytes,(∃ d,d≤256∧((zBw D a v s).crash kept torn bytes).sec (a+v % 2)=tornB (zAs v s) (D.sec (a+v % 2)) d)∧∀ j,j<D.n→j≠a+v % 2→((zBw D a v s).crash kept torn bytes).sec j=D.sec j))∧
 (zBw D a v s).n=D.n∧(zBw D a v s).ok∧(zBw D a v s).life=D.life∧(zBw D a v s).und.length≤1:=by
 obtain ⟨t1,t2,t3⟩:=slot_three h a v s ha hv hv2 hs
 have hok:=slot_ok h.ok a v s
 have hlen:=h.ok.len
 have hS:=zBd (v:Int) s hs
 have hb:(a+v % 2)*256+256≤D.img.length:=by omega
 have cutoff:∀ D':Dsk,D'.img=D.img→D'.und=[(a+v % 2,zAs v s)]→∀ kept torn bytes,(∃ d,d≤256∧(D'.crash kept torn bytes).sec (a+v % 2)=tornB (zAs v s) (D.sec (a+v % 2)) d)∧∀ j,j<D.n→j≠a+v % 2→(D'.crash kept torn bytes).sec j=D.sec j:=by
  intro D' e1 e2 kept torn bytes
  have hd:=doneK_le kept torn bytes 0
  refine ⟨⟨done kept torn bytes 0,hd,?_⟩,fun j hj hne=>?_⟩
  ·rw [crash_sec,e1,e2]
   show cut (lay D.img ((a+v % 2)*256) ((zAs v s).take (done kept torn bytes 0))) _ _=_
   exact cut_lay_torn _ _ _ _ hS hd (by omega)
  ·rw [crash_sec,e1,e2]
   refine layAll_off D.n j _ _ hlen fun x hx=>?_
   obtain ⟨y,hy,b1,b2⟩:=cutP_in _ _ _ _ hx
   rw [List.mem_singleton] at hy
   subst hy
   dsimp only at b1 b2
   exact ⟨by omega,by omega,by omega⟩
 by_cases h0:D.armed=0
 ·obtain ⟨e,hD⟩:=t1 h0
  rw [hD] at hok
  rw [e,hD]
  exact ⟨.inr ⟨rfl,rfl,cutoff _ rfl rfl⟩,rfl,hok,rfl,by simp⟩
 by_cases h1:D.armed=1
 ·obtain ⟨e,hD⟩:=t2 h1
  rw [hD] at hok
  rw [e,hD]
  exact ⟨.inr ⟨rfl,rfl,cutoff _ rfl rfl⟩,rfl,hok,rfl,by simp⟩
 obtain ⟨e,r,hD⟩:=t3 h0 h1
 rw [hD] at hok
 rw [e,hD]
 refine ⟨.inl ⟨rfl,⟨h.on,h.und,hok⟩,?_,fun j hj hne=>?_⟩,rfl,hok,rfl,by show D.und.length≤1;rw [h.und];simp⟩
 ·show cut (lay D.img ((a+v % 2)*256) (zAs v s)) _ _=_
  have:=cut_lay_torn D.img (zAs v s) ((a+v % 2)*256) 256 hS (Nat.le_refl _) hb
  rw [List.take_of_length_le (by omega)] at this
  rw [this]
  exact torn_full _ _ hS (cut_length _ _ _ hb)
 ·have e2:lay D.img ((a+v % 2)*256) (zAs v s)=zCe D.img [(a+v % 2,zAs v s)]:=rfl
  show cut (lay D.img ((a+v % 2)*256) (zAs v s)) _ _=_
  rw [e2]
  refine layAll_off D.n j _ _ hlen fun x hx=>?_
  rw [List.mem_singleton] at hx
  subst hx
  exact ⟨fun q=>hne q.symm,by dsimp only;omega,by dsimp only;omega⟩
def fmtE (D:Dsk) (n:Nat) (r:Rows):Nat:=if (zCd D (zBq n 1) (layA n) ((1:Nat):Int) (zAp r)).1≠0 then (zCd D (zBq n 1) (layA n) ((1:Nat):Int) (zAp r)).1 else slotWE (fldA D n 1 r) 0 ((1:Nat):Int) (hdrB n (zAp r).length)
def fmtW (D:Dsk) (n:Nat) (r:Rows):Dsk:=if (zCd D (zBq n 1) (layA n) ((1:Nat):Int) (zAp r)).1≠0 then fldA D n 1 r else fldD D n 1 r
structure Bare (n:Nat) (D:Dsk):Prop where
 still:Still D
 nn:D.n=n
 slot:∃ l,Holds D 0 0 l
 old:Old 0 (D.sec 1)
 log:∀ j,j<logN n→getB ((D.sec (logAt n+j)).drop 248) 8<(zBu 0 j:Nat)
theorem Bare.blank {n:Nat} (h1:64≤n) (h2:n≤65536) (k:Int) (hk:k≤9223372036854775807):Bare n ((Dsk.blank n).arm k):=by
 have hr:=Ready.blank h1 h2
 obtain ⟨l,hl⟩:=hr.slot
 refine ⟨⟨rfl,rfl,Dsk.arm_ok hr.rest.ok k hk⟩,rfl,⟨l,hl.keep fun _ _=>rfl⟩,?_,hr.log⟩
 have e:((Dsk.blank n).arm k).sec 1=zs 256:=blank_sec n 1 (by omega)
 rw [e]
 exact Old.zero
theorem Bare.format {n:Nat} {D:Dsk} (h:Bare n D) (h1:64≤n) (h2:n≤65536) (r:Rows) (hr:(zAp r).length≤234*layA n) :
 ((fmtE D n r=0∧Still (fmtW D n r))∨(fmtE D n r=12∧(fmtW D n r).off=true))∧(fmtW D n r).n=n∧(fmtW D n r).ok∧(fmtW D n r).life=D.life∧(fmtW D n r).und.length≤layA n∧
 ∀ kept torn bytes,Good n r 1 ((fmtW D n r).crash kept torn bytes)∨(fmtE D n r=12∧Ready n 0 ((fmtW D n r).crash kept torn bytes)):=by
 obtain ⟨f1,f2,f3,f4⟩:=lay_fit h1 1
 have hn:=h.nn
 obtain ⟨l,hl⟩:=h.slot
 have hlA:layA n≤65536:=by unfold layA;omega
 obtain ⟨a1,a2,a3,a4,a5⟩:=area_ways h.still (zBq n 1) (layA n) 1 (zAp r) (by omega) (Nat.le_refl _) hr hlA
 have hh:(hdrB n (zAp r).length).length≤234:=Nat.le_trans (hdrB_len _ _) (by omega)
 have hlog1:∀ j,j<logN n→((zBu 0 j:Nat):Int)<((zBu 1 j:Nat):Int):=fun j _=>by unfold zBu;omega
 rcases a1 with ⟨e0,s0,c0,o0⟩|⟨e0,o1,c1⟩
 ·have eE:fmtE D n r=slotWE (fldA D n 1 r) 0 ((1:Nat):Int) (hdrB n (zAp r).length):=by unfold fmtE;rw [if_neg (by rw [e0];simp)]
  have eW:fmtW D n r=fldD D n 1 r:=by unfold fmtW;rw [if_neg (by rw [e0];simp)]
  have hA:(zCd D (zBq n 1) (layA n) ((1:Nat):Int) (zAp r)).2=fldA D n 1 r:=rfl
  rw [hA] at s0 c0 o0 a2 a3 a4 a5
  rw [eE,eW]
  obtain ⟨b1,b2,b3,b4,b5⟩:=slot_ways (D:=fldA D n 1 r) s0 0 1 (hdrB n (zAp r).length) (by omega) (Nat.le_refl _) (by omega) hh
  have hD:zBw (fldA D n 1 r) ((0:Nat):Int) ((1:Nat):Int) (hdrB n (zAp r).length)=fldD D n 1 r:=rfl
  rw [hD] at b1 b2 b3 b4 b5
  have hA0:(fldA D n 1 r).sec 0=D.sec 0:=o0 0 (by omega) (.inl (by omega))
  have hA1:(fldA D n 1 r).sec 1=D.sec 1:=o0 1 (by omega) (.inl (by omega))
  have good:∀ D':Dsk,D'.ok→D'.n=n→Rest D'→D'.sec 1=zAs ((1:Nat):Int) (hdrB n (zAp r).length)→(∀ j,j<n→j≠1→D'.sec j=(fldA D n 1 r).sec j)→Good n r 1 D':=by
   intro D' ok' n' rest' s1 sj
   refine ⟨rest',n',⟨fun _=>?_,?_,fun q=>by omega⟩,fun k hk=>?_,fun j hj=>?_⟩
   ·show countO (D'.sec 1) 1=some (((1:Nat):Int),_)
    rw [s1]
    exact seal_count 1 (hdrB n (zAp r).length) hh (Nat.le_refl _) (by omega)
   ·show zBc (D'.sec 0) 0<((1:Nat):Int)
    rw [sj 0 (by omega) (by omega),hA0,hl.none_ rfl]
    omega
   ·rw [sj _ (by omega) (by omega)]
    exact c0 k hk
   ·rw [sj _ (by omega) (by omega),o0 _ (by omega) (.inr (by omega))]
    have:=h.log j hj
    have:=hlog1 j hj
    omega
  rcases b1 with ⟨g0,g1,g2,g3⟩|⟨g0,g1,g2⟩
  ·refine ⟨.inl ⟨g0,g1⟩,by rw [b2,a2,hn],b3,by rw [b4,a4],by omega,fun kept torn bytes=>.inl ?_⟩
   refine good _ (Dsk.crash_ok b3 _ _ _) (by show (fldD D n 1 r).n=n;rw [b2,a2,hn]) (crash_rest b3 _ _ _) ?_ (fun j hj hne=>?_)
   ·rw [still_crash g1];exact g2
   ·rw [still_crash g1];exact g3 j (by omega) hne
  ·refine ⟨.inr ⟨g0,g1⟩,by rw [b2,a2,hn],b3,by rw [b4,a4],by omega,fun kept torn bytes=>?_⟩
   obtain ⟨⟨d,hd,g3⟩,g4⟩:=g2 kept torn bytes
   have hn':((fldD D n 1 r).crash kept torn bytes).n=n:=by show (fldD D n 1 r).n=n;rw [b2,a2,hn]
   have g3:((fldD D n 1 r).crash kept torn bytes).sec 1=tornB (zAs ((0+1:Nat):Int) (hdrB n (zAp r).length)) (D.sec 1) d:=by rw [← hA1];exact g3
   have g4:∀ j,j<n→j≠1→((fldD D n 1 r).crash kept torn bytes).sec j=(fldA D n 1 r).sec j:=fun j hj hne=>g4 j (by omega) hne
   rcases torn_count h.old hh hd (by omega) 1 with t|t
   ·left
    exact good _ (Dsk.crash_ok b3 _ _ _) hn' (crash_rest b3 _ _ _) (by rw [g3,t]) g4
   ·right
    refine ⟨g0,crash_rest b3 _ _ _,hn',⟨[],fun q=>by omega,?_,fun _=>?_⟩,fun j hj=>?_⟩
    ·show zBc (((fldD D n 1 r).crash kept torn bytes).sec 1) 1<1
     rw [g3]
     exact t
    ·show zBc (((fldD D n 1 r).crash kept torn bytes).sec 0) 0=0
     rw [g4 0 (by omega) (by omega),hA0]
     exact hl.none_ rfl
    ·rw [g4 _ (by omega) (by omega),o0 _ (by omega) (.inr (by omega))]
     exact h.log j hj
 ·have eE:fmtE D n r=12:=by unfold fmtE;rw [if_pos (by rw [e0];simp),e0]
  have eW:fmtW D n r=fldA D n 1 r:=by unfold fmtW;rw [if_pos (by rw [e0];simp)]
  have hA:(zCd D (zBq n 1) (layA n) ((1:Nat):Int) (zAp r)).2=fldA D n 1 r:=rfl
  rw [hA] at o1 c1 a2 a3 a4 a5
  rw [eE,eW]
  refine ⟨.inr ⟨rfl,o1⟩,by rw [a2,hn],a3,a4,a5,fun kept torn bytes=>.inr ⟨rfl,crash_rest a3 _ _ _,by show (fldA D n 1 r).n=n;rw [a2,hn],⟨l,hl.keep fun k hk=>c1 _ _ _ _ (by omega) (.inl (by omega))⟩,fun j hj=>?_⟩⟩
  rw [c1 _ _ _ _ (by omega) (.inr (by omega))]
  exact h.log j hj
end Go.Proofs.YtahgdagcnkpnbaaGreatDoor
namespace Go.Proofs.YtahgdagcnkpnbaaGreatDoor
open Go Go.RowKit
section
variable {W:World} {F:Nat→Addr} {N:List Nd} {a:Option Addr} {r:Rows} {q s d n:Nat} {b:Int} {D:Dsk}
theorem sfoldW_ct (hE8:ErrsOn L8 W F) (hN:NibAt W) (h1:64≤n) (h2:n≤65536) (life:Int) (hT:TbOk N a r) (h:Still D) (hn:D.n=n) (hr:(zAp r).length≤234*layA n) :
 Ct Tryz.prog W 100 [.pointer (some ⟨s,0,none⟩)] [stP s d q n (0:Nat) none life false,DiskP d D,tbP q a b,arP N] (fun _:Unit=>errV F (fmtE D n r)) (fun _=>[DiskP d (fmtW D n r)]):=by
 obtain ⟨f1,f2,f3,f4⟩:=lay_fit h1 1
 have hlA:layA n≤65536:=by unfold layA;omega
 obtain ⟨a1,a2,a3,a4,a5⟩:=area_ways h (zBq n 1) (layA n) 1 (zAp r) (by omega) (Nat.le_refl _) hr hlA
 have hh:(hdrB n (zAp r).length).length≤234:=Nat.le_trans (hdrB_len _ _) (by omega)
 have hul:D.und.length+65536<1073741823:=by rw [h.und];simp
 rcases a1 with ⟨e0,s0,c0,o0⟩|⟨e0,o1,c1⟩
 ·have eE:fmtE D n r=slotWE (fldA D n 1 r) 0 ((1:Nat):Int) (hdrB n (zAp r).length):=by unfold fmtE;rw [if_neg (by rw [e0];simp)]
  have eW:fmtW D n r=fldD D n 1 r:=by unfold fmtW;rw [if_neg (by rw [e0];simp)]
  have hA:(zCd D (zBq n 1) (layA n) ((1:Nat):Int) (zAp r)).2=fldA D n 1 r:=rfl
  rw [hA] at s0 a2
  rw [eE,eW]
  obtain ⟨b1,b2,b3,b4,b5⟩:=slot_ways (D:=fldA D n 1 r) s0 0 1 (hdrB n (zAp r).length) (by omega) (Nat.le_refl _) (by omega) hh
  have hD:zBw (fldA D n 1 r) ((0:Nat):Int) ((1:Nat):Int) (hdrB n (zAp r).length)=fldD D n 1 r:=rfl
  rw [hD] at b1 b2
  rcases b1 with ⟨g0,g1,-⟩|⟨g0,-,-⟩
  ·have g0:slotWE (fldA D n 1 r) 0 ((1:Nat):Int) (hdrB n (zAp r).length)=0:=g0
   rw [g0]
   have:=sfold_ct (W:=W) (F:=F) (N:=N) (a:=a) (r:=r) (q:=q) (s:=s) (d:=d) (b:=b) (D:=D) hE8 hN h1 h2 0 (by omega) none life false hT hn hr hul e0 s0.und (by rw [a2,hn]) g0 g1.on (by rw [b2,a2,hn])
   exact this.to (fun _=>()) (fun _=>rfl) (fun _ R=>(xN))
  ·have g0:slotWE (fldA D n 1 r) 0 ((1:Nat):Int) (hdrB n (zAp r).length)=12:=g0
   rw [g0]
   have:=sfoldS_ct (W:=W) (F:=F) (N:=N) (a:=a) (r:=r) (q:=q) (s:=s) (d:=d) (b:=b) (D:=D) hE8 hN h1 h2 0 (by omega) none life false hT hn hr hul e0 s0.und (by rw [a2,hn]) g0
   exact this.to (fun _=>()) (fun _=>rfl) (fun _ R=>(xN))
 ·have eE:fmtE D n r=12:=by unfold fmtE;rw [if_pos (by rw [e0];simp),e0]
  have eW:fmtW D n r=fldA D n 1 r:=by unfold fmtW;rw [if_pos (by rw [e0];simp)]
  rw [eE,eW]
  have:=sfoldA_ct (W:=W) (F:=F) (N:=N) (a:=a) (r:=r) (q:=q) (s:=s) (d:=d) (b:=b) (D:=D) hE8 hN h1 h2 0 (by omega) none life false hT hn hr hul e0
  exact this.to (fun _=>()) (fun _=>rfl) (fun _ R=>(xN))
end
section
variable {W:World} {F:Nat→Addr} {r:Rows} {d n:Nat} {D:Dsk}
theorem sformatG_ct (hE8:ErrsOn L8 W F) (hN:NibAt W) (h1:64≤n) (h2:n≤65536) (h:Still D) (hn:D.n=n) (hs:slotE D 0=14) (A:SP) (oa:Option Addr) (oc:Nat) (ops:List BOp) (hL:Lv W opC 3 A oa ops) (ho:ops.length≤100000000) (hr:zAx [] ops=r) (hsn:(zAp r).length≤234*layA n) :
 Ct Tryz.prog W 39 [.pointer (some ⟨d,0,none⟩),.slice oa ops.length oc] [A,DiskP d D] (fun _:Unit=>errV F (fmtE D n r)) (fun _=>[A,DiskP d (fmtW D n r)]):=by
 have hA:=layA_le h2
 obtain ⟨ea,hea⟩:=errV_ne (E:=F) (show (14:Nat)≠0 by omega)
 have cr:Ct Tryz.prog W 98 [.pointer (some ⟨d,0,none⟩),.int .i64 0] [DiskP d D] (fun _:Unit=>.tuple #[strV [],.int .i64 0,.iface 369 (.pointer (some ea))]) (fun _=>[DiskP d D]):=by
  have:=sread_ct (W:=W) (p:=d) (D:=D) hE8 hN (by omega) 0
  rw [hs,hea] at this
  have e1:slotS D 0=[]:=by unfold slotS;rw [hs];rfl
  have e2:slotN D 0=0:=by unfold slotN;rw [hs];rfl
  rw [e1,e2] at this
  exact this
 have csz:Ct Tryz.prog W 97 [.pointer (some ⟨d,0,none⟩)] [DiskP d D] (fun _:Unit=>.int .i64 (n:Nat)) (fun _=>[DiskP d D]):=by
  have:=size_ct (W:=W) (p:=d) (D:=D)
  rw [hn] at this
  exact this
 have cof:Ct Tryz.prog W 56 [.pointer (some ⟨d,0,none⟩)] [DiskP d D] (fun _:Unit=>.bool false) (fun _=>[DiskP d D]):=by
  have:=off_ct (W:=W) (p:=d) (D:=D)
  rw [h.on] at this
  exact this
 have cov:=over_ct (W:=W) (d:=d) (D:=D) h1 h2 hn
 have cap:=fun q=>bapply_ct (W:=W) (N:=[]) (ta:=none) (r:=[]) (p:=q) (tb:=0) (TbOk.nil []) A oa oc ops hL (by simp;omega)
 rw [hr] at cap
 have csi:=fun (q:Nat) (N:List Nd) (a:Option Addr) (b:Int) (hT:TbOk N a r)=>ssize_ct (W:=W) (N:=N) (p:=q) (b:=b) hT (by omega)
 have cro:=fun s q=>sroom_ct (W:=W) (s:=s) (d:=d) (q:=q) (n:=n) 0 none D.life false h2
 have cfo:=fun (s q:Nat) (N:List Nd) (a:Option Addr) (b:Int) (hT:TbOk N a r)=>sfoldW_ct (W:=W) (F:=F) (s:=s) (d:=d) (q:=q) (b:=b) (D:=D) hE8 hN h1 h2 D.life hT h hn hsn
 obtain ⟨D2,hD2⟩:∃ D2,D2=fmtW D n r:=⟨_,rfl⟩
 obtain ⟨ee,hee⟩:∃ e,e=fmtE D n r:=⟨_,rfl⟩
 have q1:decide ((n:Int)<64)=false:=decide_eq_false (by omega)
 have q2:decide (((234*layA n:Nat):Int)<((zAp r).length:Nat))=false:=decide_eq_false (by omega)
 rw [← hD2,← hee] at cfo ⊢
 clear hD2 hee
 refine Ct.enter Tryz.func39 rfl Tryz.ntmps39 (by simp) (fun R=>?_)
 refine KJ.arNil ?_
 repeat' (first|(refine zAd ?_;first|(refine zAa xE (cfo _ _ _ _ _ hT) xP rfl (fun _=>?_))|(refine zAa xE (cro _ _) xP rfl (fun _=>?_))|(refine zAa xE (csi _ _ _ _ hT) xP rfl (fun _=>?_))|(refine zAa xE (cap _) xP rfl (fun x=>?_);obtain ⟨⟨N,a,b⟩,gN,hT⟩:=x;dsimp only at gN hT ⊢)|(refine zAa xE cov xP rfl (fun x=>?_);obtain ⟨s,q⟩:=x)|(refine zAa xE cr xP rfl (fun _=>?_))|(refine zAa xE cof xP rfl (fun _=>?_))|(refine zAa xE csz xP rfl (fun _=>?_)))|(refine zAq ?_;refine zAc (zAe rfl rfl q1) ?_)|(refine zAy ?_;refine zAc (zAi rfl rfl q2) ?_)|refine xst ?_|(refine xsa ?_;intro _)|(refine xsb ?_ ?_ <;>intro _<;>try (exfalso;omega))|refine xsc ?_|fail)
 all_goals (exact xdn ())
theorem sformatFG_ct (hE:ErrsOn L16 W F) (hE8:ErrsOn L8 W F) (hN:NibAt W) (h1:64≤n) (h2:n≤65536) (h:Still D) (hn:D.n=n) (hs:slotE D 0=14) (A:SP) (oa:Option Addr) (oc:Nat) (ops:List BOp) (hL:Lv W opC 3 A oa ops) (ho:ops.length≤100000000) (hr:zAx [] ops=r) (hbig:234*layA n<(zAp r).length) (hmax:(zAp r).length≤4611686018427387904) :
 Ct Tryz.prog W 39 [.pointer (some ⟨d,0,none⟩),.slice oa ops.length oc] [A,DiskP d D] (fun _:Unit=>errV F 17) (fun _=>[A,DiskP d D]):=by
 have hA:=layA_le h2
 have e17:W.cell? ⟨5,0,none⟩=some (errV F 17):=hE.at_ 17 (by decide)
 obtain ⟨ea,hea⟩:=errV_ne (E:=F) (show (14:Nat)≠0 by omega)
 have cr:Ct Tryz.prog W 98 [.pointer (some ⟨d,0,none⟩),.int .i64 0] [DiskP d D] (fun _:Unit=>.tuple #[strV [],.int .i64 0,.iface 369 (.pointer (some ea))]) (fun _=>[DiskP d D]):=by
  have:=sread_ct (W:=W) (p:=d) (D:=D) hE8 hN (by omega) 0
  rw [hs,hea] at this
  have e1:slotS D 0=[]:=by unfold slotS;rw [hs];rfl
  have e2:slotN D 0=0:=by unfold slotN;rw [hs];rfl
  rw [e1,e2] at this
  exact this
 have csz:Ct Tryz.prog W 97 [.pointer (some ⟨d,0,none⟩)] [DiskP d D] (fun _:Unit=>.int .i64 (n:Nat)) (fun _=>[DiskP d D]):=by
  have:=size_ct (W:=W) (p:=d) (D:=D)
  rw [hn] at this
  exact this
 have cof:Ct Tryz.prog W 56 [.pointer (some ⟨d,0,none⟩)] [DiskP d D] (fun _:Unit=>.bool false) (fun _=>[DiskP d D]):=by
  have:=off_ct (W:=W) (p:=d) (D:=D)
  rw [h.on] at this
  exact this
 have cov:=over_ct (W:=W) (d:=d) (D:=D) h1 h2 hn
 have cap:=fun q=>bapply_ct (W:=W) (N:=[]) (ta:=none) (r:=[]) (p:=q) (tb:=0) (TbOk.nil []) A oa oc ops hL (by simp;omega)
 rw [hr] at cap
 have csi:=fun (q:Nat) (N:List Nd) (a:Option Addr) (b:Int) (hT:TbOk N a r)=>ssize_ct (W:=W) (N:=N) (p:=q) (b:=b) hT hmax
 have cro:=fun s q=>sroom_ct (W:=W) (s:=s) (d:=d) (q:=q) (n:=n) 0 none D.life false h2
 have q1:decide ((n:Int)<64)=false:=decide_eq_false (by omega)
 have q2:decide (((234*layA n:Nat):Int)<((zAp r).length:Nat))=true:=decide_eq_true (by omega)
 refine Ct.enter Tryz.func39 rfl Tryz.ntmps39 (by simp) (fun R=>?_)
 refine KJ.arNil ?_
 repeat' (first|(refine zAd ?_;first|(refine zAa xE (cro _ _) xP rfl (fun _=>?_))|(refine zAa xE (csi _ _ _ _ hT) xP rfl (fun _=>?_))|(refine zAa xE (cap _) xP rfl (fun x=>?_);obtain ⟨⟨N,a,b⟩,gN,hT⟩:=x;dsimp only at gN hT ⊢)|(refine zAa xE cov xP rfl (fun x=>?_);obtain ⟨s,q⟩:=x)|(refine zAa xE cr xP rfl (fun _=>?_))|(refine zAa xE cof xP rfl (fun _=>?_))|(refine zAa xE csz xP rfl (fun _=>?_)))|(refine zAj ?_;refine zAc (zAn rfl e17) ?_)|(refine zAq ?_;refine zAc (zAe rfl rfl q1) ?_)|(refine zAy ?_;refine zAc (zAi rfl rfl q2) ?_)|refine xst ?_|(refine xsa ?_;intro _)|(refine xsb ?_ ?_ <;>intro _<;>try (exfalso;omega))|refine xsc ?_|fail)
 all_goals (exact xdn ())
end
end Go.Proofs.YtahgdagcnkpnbaaGreatDoor
namespace Go.Proofs.YtahgdagcnkpnbaaGreatDoor
open Go Go.RowKit
theorem Ready.fmt {n:Nat} {D:Dsk} (h:Ready n 0 D) (h1:64≤n) (h2:n≤65536) (r:Rows) (hr:(zAp r).length≤234*layA n):fmtE D n r=0∧Good n r 1 (fmtW D n r):=by
 obtain ⟨g1,g2,g3,g4,g5,g6⟩:=h.fold r h1 h2 (by omega) hr
 have g1:(zCd D (zBq n 1) (layA n) ((1:Nat):Int) (zAp r)).1=0:=g1
 have g2:slotWE (fldA D n 1 r) 0 ((1:Nat):Int) (hdrB n (zAp r).length)=0:=g2
 refine ⟨?_,?_⟩
 ·unfold fmtE;rw [if_neg (by rw [g1];simp),g2]
 ·unfold fmtW;rw [if_neg (by rw [g1];simp)];exact g3
theorem Ready.slot14 {n:Nat} {D:Dsk} (h:Ready n 0 D) (h1:64≤n):slotE D 0=14:=by
 obtain ⟨l,hl⟩:=h.slot
 have hn:=h.nn
 have:=(Holds.told h.rest (a:=0) (by omega) hl).1
 exact this
theorem Bare.slot14 {n:Nat} {D:Dsk} (h:Bare n D) (h1:64≤n):slotE D 0=14:=by
 obtain ⟨l,hl⟩:=h.slot
 have hn:=h.nn
 have:=(h.still.told (a:=0) (by omega) hl).1
 exact this
section
variable {W:World} {F:Nat→Addr} {d n:Nat} {D:Dsk} {r:Rows}
theorem snewG_ct (hE:ErrsOn L16 W F) (hE8:ErrsOn L8 W F) (hN:NibAt W) (h1:64≤n) (h2:n≤65536) (hr:RisR r) (hsn:(zAp r).length≤234*layA n) (hG:Good n r 1 D) :
 Ct Tryz.prog W 43 [.pointer (some ⟨d,0,none⟩)] [DiskP d D] (fun y:Nat × {x:StH//StI n 2 r x∧x.d=d}=>.tuple #[.pointer (some ⟨y.1,0,none⟩),.nilIface]) (fun y=>stL y.1 n y.2.1):=by
 obtain ⟨k1,k2,k3,k4,k5,k6,k7,k8⟩:=hG.ready.fold r h1 (by omega) (by omega) hsn
 have hc:=sopenR_ct (W:=W) (F:=F) (d:=d) (D:=D) hE hE8 hN h1 (by omega) hr hsn 1 ⟨by omega,by omega⟩ hG
 have e:(fldD D n (1+1) r).life=D.life:=k4
 refine hc.to (fun x=>(x.1,⟨⟨d,x.2.1.1,x.2.2,2,0,fldD D n (1+1) r,x.2.1.2.1.1,x.2.1.2.1.2.1,x.2.1.2.1.2.2⟩,⟨k3.s,by dsimp only;omega,by dsimp only;omega,by dsimp only;omega,x.2.1.2.2.2,hsn⟩,rfl⟩)) (fun _=>rfl) (fun x R g q=>?_)
 unfold stL
 dsimp only
 rw [e]
 rw [e] at q
 exact q
set_option maxRecDepth 100000 in
theorem formats13_ct (hE:ErrsAt W F) (hN:NibAt W) (hg:gB≤W.heap.size) (A B:SP) (a b:Option Addr) (c e:Nat) (first second:List BOp) (arm:Int) (harm:arm≤9223372036854775807) (ka:Option Addr) (kc:Nat) (kept:List Bool) (torn bytes:Int) (hk:BoolsAt W (.slice ka kept.length kc) kept)
 (hA:Lv W opC 3 A a first) (hB:Lv W opC 3 B b second) (hf:OpsFit first) (hs:OpsFit second) :
 Ct Tryz.prog W 10 [.slice a first.length c,.int .i64 arm,.agg #[.slice ka kept.length kc,.int .i64 torn,.int .i64 bytes],.slice b second.length e] [A,B] (fun _:Unit=>.bool true) (fun _=>[A,B]):=by
 have hE16:ErrsOn L16 W F:=hE.to16
 have hE8:ErrsOn L8 W F:=hE16.to8
 have cL:=fixed13_ct hE hN hg
 have hA64:layA 64=20:=by decide
 have cn:Ct Tryz.prog W 38 [.int .i64 64] [] (fun p:Nat=>.tuple #[.pointer (some ⟨p,0,none⟩),.nilIface]) (fun p=>[DiskP p (Dsk.blank 64)]):=new_ct 64 (by omega) (by omega) hg
 obtain ⟨k,hkk⟩:∃ k,max arm 0=k:=⟨_,rfl⟩
 have hk9:k≤9223372036854775807:=by omega
 have ca:=fun p=>arm_ct (W:=W) (p:=p) (D:=Dsk.blank 64) k hk9
 have hbare:=Bare.blank (n:=64) (by omega) (by omega) k hk9
 obtain ⟨D0,hD0⟩:∃ D0,D0=(Dsk.blank 64).arm k:=⟨_,rfl⟩
 rw [← hD0] at hbare
 simp only [← hD0] at ca
 clear hD0
 have hfl:=hf.len
 have hsl:=hs.len
 have cc:=copied13_ct A a c first hA (by omega)
 have cc2:=copied13_ct B b e second hB (by omega)
 have c17:=numA_ct hE hg 17 (by omega)
 have c12:=numA_ct hE hg 12 (by omega)
 have c14:=numA_ct hE hg 14 (by omega)
 have c0:=numA_ct hE hg 0 (by omega)
 have n12:=errNe (F:=F) (e:=12) (by omega)
 have n14:=errNe (F:=F) (e:=14) (by omega)
 have n17:=errNe (F:=F) (e:=17) (by omega)
 obtain ⟨r1,hr1⟩:∃ r,zAx [] first=r:=⟨_,rfl⟩
 obtain ⟨r2,hr2⟩:∃ r,zAx [] second=r:=⟨_,rfl⟩
 have hris1:RisR r1:=by rw [← hr1];exact applyB_ris List.Pairwise.nil _
 have hris2:RisR r2:=by rw [← hr2];exact applyB_ris List.Pairwise.nil _
 have hsn1:(zAp r1).length≤4611686018427387904:=by rw [← hr1];exact hf.snap List.Pairwise.nil (by show (1:Nat)≤_;omega)
 have hsn2:(zAp r2).length≤4611686018427387904:=by rw [← hr2];exact hs.snap List.Pairwise.nil (by show (1:Nat)≤_;omega)
 have hst:=hbare.still
 have hs14:=hbare.slot14 (by omega)
 by_cases hbig:234*layA 64<(zAp r1).length
 ·have cf:=fun (p:Nat) (ya:Option Addr) (yc:Nat)=>sformatFG_ct (W:=W) (F:=F) (d:=p) (D:=D0) hE16 hE8 hN (n:=64) (by omega) (by omega) hst hbare.nn hs14 (copP (ya,yc) first) ya yc first (Lv.own (e:=43) (c:=yc) enc_op rfl) (by omega) hr1 hbig hsn1
  have cof:∀ p,Ct Tryz.prog W 56 [.pointer (some ⟨p,0,none⟩)] [DiskP p D0] (fun _:Unit=>.bool false) (fun _=>[DiskP p D0]):=fun p=>by
   have:=off_ct (W:=W) (p:=p) (D:=D0)
   rw [hst.on] at this
   exact this
  have cpe:∀ p,Ct Tryz.prog W 57 [.pointer (some ⟨p,0,none⟩)] [DiskP p D0] (fun _:Unit=>.int .i64 0) (fun _=>[DiskP p D0]):=fun p=>by
   have:=pending_ct (W:=W) (p:=p) (D:=D0)
   rw [hst.und] at this
   exact this
  refine Ct.enter Tryz.func10 rfl Tryz.ntmps10 (by simp) (fun R=>?_)
  repeat' (first|(refine is_box ?_;refine KJ_box rfl xF rfl (fun g6=>?_))|(refine zAd ?_;first|(refine zAa xE c17 xP rfl (fun _=>?_))|(refine zAa xE (cpe _) xP rfl (fun _=>?_))|(refine zAa xE (cof _) xP rfl (fun _=>?_))|(refine zAa xE (cf _ _ _) xP rfl (fun _=>?_))|(refine zAa xE cc xP rfl (fun y=>?_);obtain ⟨ya,yc⟩:=y)|(refine KJ_call0 xE (ca _) xP (fun _=>?_))|(refine zAa xE (ca _) xP rfl (fun _=>?_))|(refine zAa xE cn xP rfl (fun p=>?_))|(refine zAa xE cL xP rfl (fun _=>?_)))|(refine ek_max ?_;refine zAc (Ev_max_w rfl rfl hkk) ?_)|(refine zBp ?_;refine zAc (zAt (q:=true) rfl rfl rfl) ?_)|(refine zBa ?_;refine zAc (Ev_neqNil rfl n17) ?_)|refine xst ?_|(refine xsa ?_;intro _)|(refine xsb ?_ ?_ <;>intro _<;>try (exfalso;omega))|refine xsc ?_|(refine zAb (id:=10) plZFU3 (by kernel_rfl) (by kernel_rfl) ?_)|refine zAm ?_ ?_|refine zAk rfl rfl rfl rfl rfl ?_ ?_|refine zAf ?_ ?_|exact Rech.nil|fail)
  all_goals (exact xdn ())
 have hfit:(zAp r1).length≤234*layA 64:=by omega
 obtain ⟨w1,w2,w3,w4,w5,w6⟩:=hbare.format (by omega) (by omega) r1 hfit
 have w6:=w6 kept torn bytes
 have cf:=fun (p:Nat) (ya:Option Addr) (yc:Nat)=>sformatG_ct (W:=W) (F:=F) (d:=p) (D:=D0) hE8 hN (n:=64) (by omega) (by omega) hst hbare.nn hs14 (copP (ya,yc) first) ya yc first (Lv.own (e:=43) (c:=yc) enc_op rfl) (by omega) hr1 hfit
 obtain ⟨D1,hD1⟩:∃ D,D=fmtW D0 64 r1:=⟨_,rfl⟩
 obtain ⟨ee,hee⟩:∃ x,x=fmtE D0 64 r1:=⟨_,rfl⟩
 rw [← hD1] at w1 w2 w3 w4 w5 w6 cf
 rw [← hee] at w1 w6 cf
 clear hD1 hee
 have cof:=fun p=>off_ct (W:=W) (p:=p) (D:=D1)
 have cra:=fun p=>crash_old (W:=W) (p:=p) (D:=D1) torn bytes hk (by omega)
 obtain ⟨D2,hD2⟩:∃ D,D=D1.crash kept torn bytes:=⟨_,rfl⟩
 rw [← hD2] at w6 cra
 clear hD2
 obtain ⟨hrl1,hrs1⟩:=rows_room hfit (by omega)
 have cb1:Ct Tryz.prog W 49 [.slice none 0 0,.slice a first.length c] [noP,A] (fun x:Option Addr × Nat=>.slice x.1 (zAx [] first).length x.2) (fun x=>[noP,A,ropP x (zAx [] first)]):=behind13_ct (W:=W) noP A none a 0 c [] first (Lv.old rC_ok ⟨none,0,rfl,fun h=>absurd rfl h⟩) hA List.Pairwise.nil (Nat.zero_le _) (by omega)
 rw [hr1] at cb1
 have cb2:Ct Tryz.prog W 49 [.slice none 0 0,.slice b second.length e] [noP,B] (fun x:Option Addr × Nat=>.slice x.1 (zAx [] second).length x.2) (fun x=>[noP,B,ropP x (zAx [] second)]):=behind13_ct (W:=W) noP B none b 0 e [] second (Lv.old rC_ok ⟨none,0,rfl,fun h=>absurd rfl h⟩) hB List.Pairwise.nil (Nat.zero_le _) (by omega)
 rw [hr2] at cb2
 have crw:=fun (r:Rows) (hl:r.length≤10000000) (s d q g v:Nat) (D:Dsk) (N:List Nd) (ta:Option Addr) (tb:Int) (hT:TbOk N ta r)=>srows_ct (W:=W) (s:=s) (d:=d) (q:=q) (n:=64) (b:=tb) (v:Nat) (some ⟨g,0,none⟩) D.life false hT (by omega)
 have cse:=fun (r:Rows) (hl:r.length≤10000000) (x y:Option Addr × Nat)=>srows13_ct (W:=W) (ropP x r) (ropP y r) x.1 y.1 x.2 y.2 r (Lv.own (e:=51) (c:=x.2) rC_ok rfl) (Lv.own (e:=51) (c:=y.2) rC_ok rfl) (by omega)
 refine Ct.enter Tryz.func10 rfl Tryz.ntmps10 (by simp) (fun R=>?_)
 refine KJ.noP ?_
 repeat' (first|(refine at_seq_region (id:=8) ?_;refine hold ?_)|(refine is_box ?_;refine KJ_box rfl xF rfl (fun g6=>?_))|(refine zAd ?_;first|(refine zAa xE (cf _ _ _) xP rfl (fun _=>?_))|(refine zAa xE cc xP rfl (fun y=>?_);obtain ⟨ya,yc⟩:=y)|(refine KJ_call0 xE (ca _) xP (fun _=>?_))|(refine zAa xE (ca _) xP rfl (fun _=>?_))|(refine zAa xE cn xP rfl (fun p=>?_))|(refine zAa xE cL xP rfl (fun _=>?_)))|(refine ek_max ?_;refine zAc (Ev_max_w rfl rfl hkk) ?_)|refine xst ?_|(refine xsa ?_;intro _)|(refine xsb ?_ ?_ <;>intro _<;>try (exfalso;omega))|refine xsc ?_|(refine zAb (id:=10) plZFU3 (by kernel_rfl) (by kernel_rfl) ?_)|refine zAm ?_ ?_|refine zAk rfl rfl rfl rfl rfl ?_ ?_|refine zAf ?_ ?_|exact Rech.nil|fail)
 refine Hold.mk ?_
 rcases w1 with ⟨h0,hon⟩|⟨h0,hoff⟩
 ·subst h0
  have w6:Good 64 r1 1 D2:=w6.resolve_right fun h=>absurd h.1 (by omega)
  have co:=fun p=>snewG_ct (W:=W) (F:=F) (d:=p) (D:=D2) hE16 hE8 hN (by omega) (by omega) hris1 hfit w6
  rw [hon.on] at cof
  repeat' (first|(refine zAd ?_;first|(refine zAa xE (cse r1 hrl1 (ua,uc) (va,vc)) xP rfl (fun _=>?_))|(refine zAa xE cb1 xP rfl (fun x=>?_);obtain ⟨va,vc⟩:=x)|(refine zAa xE (crw r1 hrl1 _ _ _ _ _ _ _ _ _ hT) xP rfl (fun x=>?_);obtain ⟨ua,uc⟩:=x)|(refine zAa (d:=64) xE (co _) xP rfl (fun y=>?_);obtain ⟨s,⟨⟨xd,q,g,v,used,DD,N,ta,tb⟩,hI,hd⟩⟩:=y;dsimp only at hd ⊢;subst hd;have hT:TbOk N ta r1:=hI.tab;clear hI)|(refine zAa xE c0 xP rfl (fun _=>?_))|(refine KJ_call0 xE (cra _) xP (fun _=>?_))|(refine zAa xE (cra _) xP rfl (fun _=>?_))|(refine zAa xE (cof _) xP rfl (fun _=>?_)))|(refine zBp ?_;first|refine zAc (zAt (q:=true) rfl rfl rfl) ?_|refine zAc (zAt (q:=false) rfl rfl rfl) ?_)|(refine zBa ?_;refine zAc (Ev_neqBw (r:=false) rfl rfl rfl) ?_)|refine xst ?_|(refine xsa ?_;intro _)|(refine xsb ?_ ?_ <;>intro _<;>try (exfalso;omega))|refine xsc ?_|(refine zAb (id:=10) plZFU3 (by kernel_rfl) (by kernel_rfl) ?_)|refine zAm ?_ ?_|refine zAk rfl rfl rfl rfl rfl ?_ ?_|refine zAf ?_ ?_|exact Rech.nil|fail)
  all_goals (exact xdn ())
 subst h0
 rw [hoff] at cof
 rcases w6 with w6|⟨-,w6⟩
 ·have co:=fun p=>snewG_ct (W:=W) (F:=F) (d:=p) (D:=D2) hE16 hE8 hN (by omega) (by omega) hris1 hfit w6
  repeat' (first|(refine zAd ?_;first|(refine zAa xE c12 xP rfl (fun _=>?_))|(refine zAa xE (cse r1 hrl1 (ua,uc) (va,vc)) xP rfl (fun _=>?_))|(refine zAa xE cb1 xP rfl (fun x=>?_);obtain ⟨va,vc⟩:=x)|(refine zAa xE (crw r1 hrl1 _ _ _ _ _ _ _ _ _ hT) xP rfl (fun x=>?_);obtain ⟨ua,uc⟩:=x)|(refine zAa (d:=64) xE (co _) xP rfl (fun y=>?_);obtain ⟨s,⟨⟨xd,q,g,v,used,DD,N,ta,tb⟩,hI,hd⟩⟩:=y;dsimp only at hd ⊢;subst hd;have hT:TbOk N ta r1:=hI.tab;clear hI)|(refine KJ_call0 xE (cra _) xP (fun _=>?_))|(refine zAa xE (cra _) xP rfl (fun _=>?_))|(refine zAa xE (cof _) xP rfl (fun _=>?_)))|(refine zBp ?_;first|refine zAc (zAt (q:=true) rfl rfl rfl) ?_|refine zAc (zAt (q:=false) rfl rfl rfl) ?_)|(refine zBa ?_;first|refine zAc (Ev_neqI_q (q:=false) rfl rfl rfl) ?_|refine zAc (Ev_neqBw (r:=false) rfl rfl rfl) ?_|refine zAc (Ev_neqNil rfl n12) ?_)|refine xst ?_|(refine xsa ?_;intro _)|(refine xsb ?_ ?_ <;>intro _<;>try (exfalso;omega))|refine xsc ?_|(refine zAb (id:=10) plZFU3 (by kernel_rfl) (by kernel_rfl) ?_)|refine zAm ?_ ?_|refine zAk rfl rfl rfl rfl rfl ?_ ?_|refine zAf ?_ ?_|exact Rech.nil|fail)
  all_goals (exact xdn ())
 have h14:=w6.slot14 (by omega)
 have co:=fun p=>sopenE_ct (W:=W) (F:=F) (d:=p) (D:=D2) hE8 hN (n:=64) (by omega) (by omega) w6.nn w6.rest.calm.1 14 h14 (by omega)
 have hst2:Still D2:=⟨w6.rest.calm.1,w6.rest.und,w6.rest.ok⟩
 by_cases hbig2:234*layA 64<(zAp r2).length
 ·have cf2:=fun (p:Nat) (ya:Option Addr) (yc:Nat)=>sformatFG_ct (W:=W) (F:=F) (d:=p) (D:=D2) hE16 hE8 hN (n:=64) (by omega) (by omega) hst2 w6.nn h14 (copP (ya,yc) second) ya yc second (Lv.own (e:=43) (c:=yc) enc_op rfl) (by omega) hr2 hbig2 hsn2
  repeat' (first|(refine zAd ?_;first|(refine zAa xE c17 xP rfl (fun _=>?_))|(refine zAa xE c12 xP rfl (fun _=>?_))|(refine zAa xE (cf2 _ _ _) xP rfl (fun _=>?_))|(refine zAa xE cc2 xP rfl (fun y=>?_);obtain ⟨zza,zzc⟩:=y)|(refine zAa xE c14 xP rfl (fun _=>?_))|(refine zAa xE (co _) xP rfl (fun _=>?_))|(refine KJ_call0 xE (cra _) xP (fun _=>?_))|(refine zAa xE (cra _) xP rfl (fun _=>?_))|(refine zAa xE (cof _) xP rfl (fun _=>?_)))|(refine zBp ?_;first|refine zAc (zAt (q:=true) rfl rfl rfl) ?_|refine zAc (zAt (q:=false) rfl rfl rfl) ?_|refine zAc (Ev_eqlNil rfl n12) ?_|refine zAc (Ev_eqlNil rfl n14) ?_)|(refine zBa ?_;first|refine zAc (Ev_neqNil rfl n17) ?_|refine zAc (Ev_neqI_q (q:=false) rfl rfl rfl) ?_|refine zAc (Ev_neqBw (r:=false) rfl rfl rfl) ?_|refine zAc (Ev_neqNil rfl n12) ?_)|refine xst ?_|(refine xsa ?_;intro _)|(refine xsb ?_ ?_ <;>intro _<;>try (exfalso;omega))|refine xsc ?_|(refine zAb (id:=10) plZFU3 (by kernel_rfl) (by kernel_rfl) ?_)|refine zAm ?_ ?_|refine zAk rfl rfl rfl rfl rfl ?_ ?_|refine zAf ?_ ?_|exact Rech.nil|fail)
  all_goals (exact xdn ())
 have hfit2:(zAp r2).length≤234*layA 64:=by omega
 obtain ⟨hrl2,hrs2⟩:=rows_room hfit2 (by omega)
 obtain ⟨v1,v2⟩:=w6.fmt (by omega) (by omega) r2 hfit2
 have cf2:=fun (p:Nat) (ya:Option Addr) (yc:Nat)=>sformatG_ct (W:=W) (F:=F) (d:=p) (D:=D2) hE8 hN (n:=64) (by omega) (by omega) hst2 w6.nn h14 (copP (ya,yc) second) ya yc second (Lv.own (e:=43) (c:=yc) enc_op rfl) (by omega) hr2 hfit2
 rw [v1] at cf2
 obtain ⟨D3,hD3⟩:∃ D,D=fmtW D2 64 r2:=⟨_,rfl⟩
 rw [← hD3] at v2 cf2
 clear hD3 v1
 have co2:=fun p=>snewG_ct (W:=W) (F:=F) (d:=p) (D:=D3) hE16 hE8 hN (by omega) (by omega) hris2 hfit2 v2
 repeat' (first|(refine zAd ?_;first|(refine zAa xE (cse r2 hrl2 (ua,uc) (va,vc)) xP rfl (fun _=>?_))|(refine zAa xE cb2 xP rfl (fun x=>?_);obtain ⟨va,vc⟩:=x)|(refine zAa xE (crw r2 hrl2 _ _ _ _ _ _ _ _ _ hT) xP rfl (fun x=>?_);obtain ⟨ua,uc⟩:=x)|(refine zAa (d:=96) xE (co2 _) xP rfl (fun y=>?_);obtain ⟨s,⟨⟨xd,q,g,v,used,DD,N,ta,tb⟩,hI,hd⟩⟩:=y;dsimp only at hd ⊢;subst hd;have hT:TbOk N ta r2:=hI.tab;clear hI)|(refine zAa xE c12 xP rfl (fun _=>?_))|(refine zAa xE (cf2 _ _ _) xP rfl (fun _=>?_))|(refine zAa xE cc2 xP rfl (fun y=>?_);obtain ⟨zza,zzc⟩:=y)|(refine zAa xE c14 xP rfl (fun _=>?_))|(refine zAa xE (co _) xP rfl (fun _=>?_))|(refine KJ_call0 xE (cra _) xP (fun _=>?_))|(refine zAa xE (cra _) xP rfl (fun _=>?_))|(refine zAa xE (cof _) xP rfl (fun _=>?_)))|(refine zBp ?_;first|refine zAc (zAt (q:=true) rfl rfl rfl) ?_|refine zAc (zAt (q:=false) rfl rfl rfl) ?_|refine zAc (Ev_eqlNil rfl n12) ?_|refine zAc (Ev_eqlNil rfl n14) ?_)|(refine zBa ?_;first|refine zAc (Ev_neqI_q (q:=false) rfl rfl rfl) ?_|refine zAc (Ev_neqBw (r:=false) rfl rfl rfl) ?_|refine zAc (Ev_neqNil rfl n12) ?_)|refine xst ?_|(refine xsa ?_;intro _)|(refine xsb ?_ ?_ <;>intro _<;>try (exfalso;omega))|refine xsc ?_|(refine zAb (id:=10) plZFU3 (by kernel_rfl) (by kernel_rfl) ?_)|refine zAm ?_ ?_|refine zAk rfl rfl rfl rfl rfl ?_ ?_|refine zAf ?_ ?_|exact Rech.nil|fail)
 all_goals (exact xdn ())
theorem formats13_law (hE:ErrsAt W F) (hN:NibAt W) (hg:gB≤W.heap.size) (a b:Option Addr) (c e:Nat) (first second:List BOp) (arm:Int) (harm:arm≤9223372036854775807) (kv:Value) (kept:List Bool) (torn bytes:Int) (hk:BoolsAt W kv kept)
 (hA:Lv W opC 3 noP a first) (hB:Lv W opC 3 noP b second) (hf:OpsFit first) (hs:OpsFit second) :
 Ct Tryz.prog W 10 [.slice a first.length c,.int .i64 arm,.agg #[kv,.int .i64 torn,.int .i64 bytes],.slice b second.length e] [] (fun _:Unit=>.bool true) (fun _=>[]):=by
 have hk':=hk
 obtain ⟨ka,kc,rfl,-⟩:=hk'
 exact Ct.noP14 (formats13_ct hE hN hg noP noP a b c e first second arm harm ka kc kept torn bytes hk hA hB hf hs)
end
end Go.Proofs.YtahgdagcnkpnbaaGreatDoor
