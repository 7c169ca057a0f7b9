/-
  StW3, StW4, JLe4, StW5, StW6.
-/
import Derived.Test.YtnbgcimalpdfoaaGreatDoorUEH
import Derived.Test.YtnbgcimalpdfoaaGreatDoorUEB
import Derived.Test.YtnbgcimalpdfoaaGreatDoorUDY
set_option maxHeartbeats 64000000
namespace Go.Proofs.YtnbgcimalpdfoaaGreatDoor
open Go Go.RowKit
abbrev plUEM0:Pl:=(.op 0 (.op 1 (.op 2 (.op 3 (.op 4 (.op 5 (.op 6 (.op 7 (.op 8 (.ef 9 [4,3,2,1,0] (.op 10 (.op 11 .nil))))))))))))
abbrev plUEM1:Pl:=(.op 0 (.op 1 (.op 2 (.op 3 (.op 4 (.op 5 (.op 6 (.op 7 (.op 8 (.op 9 (.op 10 (.op 11 (.op 12 (.op 13 (.op 14 (.op 15 (.op 16 (.op 17 (.op 18 (.op 19 (.ef 20 [] (.op 21 (.op 22 (.op 23 (.op 24 (.op 25 (.op 26 (.op 27 (.op 28 (.ef 29 [27,26,25,24,23] (.ef 30 [] (.op 31 (.op 32 .nil)))))))))))))))))))))))))))))))))
abbrev plUEM2:Pl:=(.op 0 (.op 1 (.op 2 (.op 3 (.op 4 (.op 5 (.op 6 (.op 7 (.op 8 (.op 9 (.op 10 (.op 11 (.op 12 (.op 13 (.op 14 (.ef 15 [] (.op 16 (.op 17 (.op 18 (.op 19 (.op 20 .nil)))))))))))))))))))))
abbrev plUEM3:Pl:=(.op 0 (.op 1 (.op 2 (.ef 3 [] .nil))))
abbrev plUEM4:Pl:=(.op 0 (.op 1 (.op 2 (.op 3 (.op 4 (.op 8 (.ef 5 [8,0] (.op 6 (.op 7 (.ef 9 [] .nil))))))))))
abbrev plUEM5:Pl:=(.op 0 (.op 1 (.op 2 (.op 3 (.op 4 (.op 5 (.op 6 (.op 7 (.op 8 (.op 9 (.op 10 (.op 11 (.op 12 (.op 13 (.op 14 (.op 15 (.op 16 (.op 17 (.op 18 (.op 19 (.ef 20 [] (.op 21 (.op 22 (.op 23 (.op 24 (.op 25 .nil))))))))))))))))))))))))))
abbrev plUEM6:Pl:=(.op 0 (.op 1 (.op 2 (.op 3 (.op 5 (.op 8 (.ef 4 [8,5] (.ef 6 [8] (.op 7 (.ef 9 [] .nil))))))))))
section
variable {W:World} {F:Nat→Addr} {N:List Nd} {a:Option Addr} {r:Rows} {q s d n:Nat} {b:Int} {D:Dsk}
instance fn_snapshot:FnIs Tryz.prog 160:=⟨by kernel_rfl⟩
abbrev jouP (g d:Nat) (n v:Nat) (life:Int):SP:=zAk g [.pointer (some ⟨d,0,none⟩),.int .i64 (logAt n:Nat),.int .i64 (logN n:Nat),.int .i64 (v:Nat),.int .i64 0,.int .i64 life,.bool false] 256
theorem sfold_ct (hE:ErrsOn L8 W F) (hN:NibAt W) (h1:64≤n) (h2:n≤65536) (v:Nat) (hv:v+1≤1099511627776) (lg:Option Addr) (life:Int) (dead:Bool) (hT:TbOk N a r) (hn:D.n=n) (hr:(snapB r).length≤234*layA n) (hul:D.und.length+65536<1073741823)
 (hA:(areaW D (areaAt n (v+1)) (layA n) ((v+1:Nat):Int) (snapB r)).1=0) (hu2:(fldA D n (v+1) r).und=[]) (hn2:(fldA D n (v+1) r).n=n) (hS:slotWE (fldA D n (v+1) r) 0 ((v+1:Nat):Int) (hdrB n (snapB r).length)=0) (ho:(fldD D n (v+1) r).off=false) (hn3:(fldD D n (v+1) r).n=n) :
 Ct Tryz.prog W 111 [.pointer (some ⟨s,0,none⟩)] [stP s d q n (v:Nat) lg life dead,DiskP d D,tbP q a b,arP N] (fun _:Nat=>.nilIface)
  (fun g=>[stP s d q n ((v+1:Nat):Int) (some ⟨g,0,none⟩) life dead,DiskP d (fldD D n (v+1) r),tbP q a b,arP N,jouP g d n (v+1) (fldD D n (v+1) r).life]):=by
 obtain ⟨f1,f2,f3,f4⟩:=lay_fit h1 (v+1)
 have hA2:=layA_le h2
 have cs:=snapshot_ct (W:=W) (p:=q) (b:=b) hT (by omega)
 have cA:Ct Tryz.prog W 162 [.pointer (some ⟨d,0,none⟩),.int .i64 (areaAt n (v+1):Nat),.int .i64 (layA n:Nat),.int .u64 ((v+1:Nat):Int),strV (snapB r)] [DiskP d D] (fun _:Unit=>.nilIface) (fun _=>[DiskP d (fldA D n (v+1) r)]):=by
  have:=awrite_ct (W:=W) (p:=d) (D:=D) hE hN (by omega) hul (areaAt n (v+1):Nat) (layA n:Nat) ((v+1:Nat):Int) (snapB r)
  rw [hA] at this
  exact this
 have cW:Ct Tryz.prog W 163 [.pointer (some ⟨d,0,none⟩),.int .i64 0,.int .i64 ((v+1:Nat):Int),strV (hdrB n (snapB r).length)] [DiskP d (fldA D n (v+1) r)] (fun _:Unit=>.nilIface) (fun _=>[DiskP d (fldD D n (v+1) r)]):=by
  have:=swrite_ct (W:=W) (p:=d) (D:=fldA D n (v+1) r) hE hN (by omega) (by rw [hu2];simp) 0 ((v+1:Nat):Int) (hdrB n (snapB r).length)
  rw [hS] at this
  exact this
 have cB:=begin_ct (W:=W) (p:=d) (D:=fldD D n (v+1) r) (by omega) ho (logAt n:Nat) (logN n:Nat) ((v+1:Nat):Int) ⟨by omega,by omega,by omega,by omega,by omega,by omega,by omega⟩
 obtain ⟨D1,hD1⟩:∃ D1,D1=fldA D n (v+1) r:=⟨_,rfl⟩
 obtain ⟨D2,hD2⟩:∃ D2,D2=fldD D n (v+1) r:=⟨_,rfl⟩
 rw [← hD1,← hD2] at cW
 rw [← hD1] at cA
 rw [← hD2] at cB ⊢
 clear hA hS hD1 hD2 hu2 hn2
 have csz:Ct Tryz.prog W 104 [.pointer (some ⟨d,0,none⟩)] [DiskP d D] (fun _:Unit=>.int .i64 (n:Nat)) (fun _=>[DiskP d D]):=by
  have:=size_ct (W:=W) (p:=d) (D:=D)
  rw [hn] at this
  exact this
 obtain ⟨L,hL⟩:∃ L,L=snapB r:=⟨_,rfl⟩
 rw [← hL] at hr cs cA cW
 clear hL
 have cn:=wnew_ct (W:=W)
 have cu1:∀ g,Ct Tryz.prog W 161 [.pointer (some ⟨g,0,none⟩),.int .u64 (n:Nat)] [WrP g []] (fun _:Unit=>.tuple #[]) (fun _=>[WrP g (vu n)]):=fun g=>by
  have:=wuint_ct (W:=W) (p:=g) (l:=[]) n (by omega) (by simp)
  rw [List.nil_append] at this
  exact this
 have hvn:=vu_len n
 have hvp:=vu_pos n
 have cu2:∀ g,Ct Tryz.prog W 161 [.pointer (some ⟨g,0,none⟩),.int .u64 (L.length:Nat)] [WrP g (vu n)] (fun _:Unit=>.tuple #[]) (fun _=>[WrP g (hdrB n L.length)]):=fun g=>wuint_ct (W:=W) (p:=g) (l:=vu n) L.length (by omega) (by omega)
 have co:∀ g,Ct Tryz.prog W 61 [.pointer (some ⟨g,0,none⟩)] [WrP g (hdrB n L.length)] (fun _:Unit=>strV (hdrB n L.length)) (fun _=>[WrP g (hdrB n L.length)]):=fun g=>wout_ct (W:=W) (by unfold hdrB;rw [List.length_append];omega)
 have w1:IntKind.u64.wrap ((n:Nat):Int)=((n:Nat):Int):=zCc _ (by omega)
 have w2:IntKind.u64.wrap ((L.length:Nat):Int)=((L.length:Nat):Int):=zCc _ (by omega)
 have w3:IntKind.u64.wrap ((v+1:Nat):Int)=((v+1:Nat):Int):=zCc _ (by omega)
 have q0:decide ((1099511627776:Int)≤(v:Nat))=false:=decide_eq_false (by omega)
 have fin:∀ m:Nat,((v+1:Nat):Int) % 2=(m:Nat)→(stC d q n (v:Nat) lg life dead)[0+1+0+((m:Nat):Int).toNat*1]? = some (.int .i64 (areaAt n (v+1):Nat)):=fun m hm=>by
  unfold areaAt
  rcases (show m=0∨m=1 by omega) with rfl|rfl
  ·rw [if_pos (by omega)];rfl
  ·rw [if_neg (by omega)];rfl
 obtain ⟨m,hm⟩:∃ m:Nat,((v+1:Nat):Int) % 2=(m:Nat):=⟨(v+1) % 2,by omega⟩
 have hx:=fin m hm
 have hm2:m<2:=by omega
 clear fin
 refine Ct.enter Tryz.func111 rfl Tryz.ntmps111 (by simp) (fun R=>?_)
 repeat' (first|(refine zAd ?_;first|(refine zAc xE cB xP rfl (fun g=>?_))|(refine zAc xE cW xP rfl (fun _=>?_))|(refine zAc xE cA xP rfl (fun _=>?_))|(refine zAc xE (co _) xP rfl (fun _=>?_))|(refine zAc xE (cu2 _) xP rfl (fun _=>?_))|(refine zAc xE (cu1 _) xP rfl (fun _=>?_))|(refine zAc xE csz xP rfl (fun _=>?_))|(refine zAc xE cn xP rfl (fun pw=>?_))|(refine zAc xE cs xP rfl (fun _=>?_)))|(refine zAn ?_;refine zAa (Ev_load rfl xS hx) ?_)|(refine zBe ?_;first|refine zAa (zAs rfl w3) ?_|refine zAa (zAs rfl w2) ?_|refine zAa (zAs rfl w1) ?_)|(refine zAw ?_;refine zAa (zAg (r:=((v+1:Nat):Int)) rfl rfl (by omega) (by omega)) ?_)|(refine ek_rem ?_;refine zAa (Ev_rem_w rfl rfl (by omega) hm) ?_)|(refine zCh ?_;refine zAa (zBf rfl rfl q0) ?_)|refine xst ?_|(refine xsa ?_;intro _)|(refine xsb ?_ ?_ <;>intro _<;>try (exfalso;omega))|refine xsc ?_|(refine zAb (id:=3) plUEM0 (by kernel_rfl) (by kernel_rfl) ?_)|(refine zAb (id:=7) plUEM1 (by kernel_rfl) (by kernel_rfl) ?_)|(refine zAb (id:=10) plUEM2 (by kernel_rfl) (by kernel_rfl) ?_)|refine zAj ?_ ?_|refine zAi rfl rfl rfl rfl rfl ?_ ?_|refine zAf ?_ ?_|exact Rech.nil|fail)
 all_goals (exact xdn g)
end
end Go.Proofs.YtnbgcimalpdfoaaGreatDoor
namespace Go.Proofs.YtnbgcimalpdfoaaGreatDoor
open Go Go.RowKit
theorem snap_nil:snapB []=[0]:=rfl
section
variable {W:World} {F:Nat→Addr} {q s d n g:Nat} {D:Dsk}
instance fn_must:FnIs Tryz.prog 165:=⟨by kernel_rfl⟩
theorem must_ct:Ct Tryz.prog W 165 [.nilIface] [] (fun _:Unit=>.tuple #[]) (fun _=>[]):=by
 refine Ct.enter Tryz.func165 rfl Tryz.ntmps165 (by simp) (fun R=>?_)
 repeat' (first|refine xst ?_|(refine xsa ?_;intro _)|(refine xsb ?_ ?_ <;>intro _<;>try (exfalso;omega))|refine xsc ?_|fail)
 all_goals (exact xdn ())
theorem unless_ct (e:Value):Ct Tryz.prog W 170 [.bool true,e] [] (fun _:Unit=>.tuple #[]) (fun _=>[]):=by
 refine Ct.enter Tryz.func170 rfl Tryz.ntmps170 (by simp) (fun R=>?_)
 repeat' (first|refine xst ?_|(refine xsa ?_;intro _)|(refine xsb ?_ ?_ <;>intro _<;>try (exfalso;omega))|refine xsc ?_|fail)
 all_goals (exact xdn ())
theorem corrupt_ct (hE:ErrsOn L37 W F):Ct Tryz.prog W 167 [.nilIface] [] (fun _:Unit=>.tuple #[]) (fun _=>[]):=by
 have e12:W.cell? ⟨12,0,none⟩=some (errV F 12):=hE.at_ 12 (by decide)
 have e15:W.cell? ⟨4,0,none⟩=some (errV F 15):=hE.at_ 15 (by decide)
 have cu:=unless_ct (W:=W) (errV F 15)
 have cm:=must_ct (W:=W)
 refine Ct.enter Tryz.func167 rfl Tryz.ntmps167 (by simp) (fun R=>?_)
 repeat' (first|(refine zAd ?_;first|(refine zAc xE cm xP rfl (fun _=>?_))|(refine zAc xE cu xP rfl (fun _=>?_)))|(refine zAn ?_;first|refine zAa (zAr rfl e15) ?_|refine zAa (zAr rfl e12) ?_)|(refine zAx ?_;refine zAa (Ev_neqE (a:=0) (b:=12) hE rfl rfl (.inl rfl) (by decide) rfl) ?_)|refine xst ?_|(refine xsa ?_;intro _)|(refine xsb ?_ ?_ <;>intro _<;>try (exfalso;omega))|refine xsc ?_|(refine zAb (id:=1) plUEM3 (by kernel_rfl) (by kernel_rfl) ?_)|refine zAj ?_ ?_|refine zAi rfl rfl rfl rfl rfl ?_ ?_|refine zAf ?_ ?_|exact Rech.nil|fail)
 all_goals (exact xdn ())
theorem sroom_ct (v:Int) (lg:Option Addr) (life:Int) (dead:Bool) (h2:n≤65536):Ct Tryz.prog W 110 [.pointer (some ⟨s,0,none⟩)] [stP s d q n v lg life dead] (fun _:Unit=>.int .i64 (234*layA n:Nat)) (fun _=>[stP s d q n v lg life dead]):=by
 have hA:=layA_le h2
 have cr:Ct Tryz.prog W 159 [.int .i64 (layA n:Nat)] [] (fun _:Unit=>.int .i64 (234*layA n:Nat)) (fun _=>[]):=by
  have:=room9_ct (W:=W) (layA n:Nat)
  rw [show roomI (layA n:Nat)=(234*layA n:Nat) by unfold roomI;omega] at this
  exact this
 refine Ct.enter Tryz.func110 rfl Tryz.ntmps110 (by simp) (fun R=>?_)
 repeat' (first|(refine zAd ?_;refine zAc xE cr xP rfl (fun _=>?_))|refine xst ?_|(refine xsa ?_;intro _)|(refine xsb ?_ ?_ <;>intro _<;>try (exfalso;omega))|refine xsc ?_|fail)
 all_goals (exact xdn ())
theorem restore0_ct (hE:ErrsOn L37 W F):Ct Tryz.prog W 172 [strV [0]] [] (fun q:Nat=>.pointer (some ⟨q,0,none⟩)) (fun q=>[tbP q none 0]):=by
 have e1:W.cell? ⟨14,0,none⟩=some (errV F 1):=hE.at_ 1 (by decide)
 have e2:W.cell? ⟨15,0,none⟩=some (errV F 2):=hE.at_ 2 (by decide)
 have e3:W.cell? ⟨16,0,none⟩=some (errV F 3):=hE.at_ 3 (by decide)
 have e5:W.cell? ⟨18,0,none⟩=some (errV F 5):=hE.at_ 5 (by decide)
 have crd:=rread_ct (W:=W) [0]
 have cup:∀ g,Ct Tryz.prog W 168 [.pointer (some ⟨g,0,none⟩),.int .i64 1] [rdP g [0] 0] (fun _:Unit=>.tuple #[.int .i64 0,.nilIface]) (fun _=>[rdP g [0] 1]):=fun g=>rupto_ct (W:=W) (F:=F) (p:=g) (s:=[0]) (a:=0) 1 (by omega) (by simp) (by simp) e1 e2 e3 (.ok 0 []) rfl
 have cd:∀ g,Ct Tryz.prog W 169 [.pointer (some ⟨g,0,none⟩)] [rdP g [0] 1] (fun _:Unit=>.nilIface) (fun _=>[rdP g [0] 1]):=fun g=>rdone_ct (W:=W) (F:=F) (p:=g) (s:=[0]) (a:=1) (by simp) (by simp) e5
 have cc:=corrupt_ct (W:=W) hE
 have ct:=tnew_ct (W:=W)
 refine Ct.enter Tryz.func172 rfl Tryz.ntmps172 (by simp) (fun R=>?_)
 repeat' (first|(refine zAd ?_;first|(refine zAc xE ct xP rfl (fun q=>?_))|(refine zAc xE cc xP rfl (fun _=>?_))|(refine zAc xE (cup _) xP rfl (fun _=>?_))|(refine zAc xE crd xP rfl (fun g=>?_)))|refine xst ?_|(refine xsa ?_;intro _)|(refine xsb ?_ ?_ <;>intro _<;>try (exfalso;omega))|refine xsc ?_|fail)
 refine zBm (fun _:Unit=>[(3,.pointer (some ⟨g,0,none⟩)),(6,.pointer (some ⟨q,0,none⟩)),(24,.int .i64 0),(25,.int .i64 0)]) (fun _=>[tbP q none 0,rdP g [0] 1]++R) (fun _=>0) () xB (xN) (fun _=>?_)
 have ql:decide ((0:Int)<0)=false:=rfl
 repeat' (first|(refine zAd ?_;first|(refine zAc xE cc xP rfl (fun _=>?_))|(refine zAc xE (cd _) xP rfl (fun _=>?_)))|(refine zAm ?_;refine zAa (zAe rfl rfl ql) ?_)|refine xst ?_|(refine xsa ?_;intro _)|(refine xsb ?_ ?_ <;>intro _<;>try (exfalso;omega))|refine xsc ?_|fail)
 all_goals (exact xdn q)
end
end Go.Proofs.YtnbgcimalpdfoaaGreatDoor
namespace Go.Proofs.YtnbgcimalpdfoaaGreatDoor
open Go Go.RowKit
section
variable {P:Program} {W:World} {n:Nat} {k:KK} {E:Env} {H R:List SP} {x z:Operand} {t e:TypeId}
theorem Ct.rowSl {P:Program} {W:World} {f:FuncId} {args:List Value} {Hpre:List SP} {A:SP} {e size m:Nat} {xs:List Value} (h:Ct P W f args Hpre (fun v:Value=>.tuple #[v,.nilIface]) (fun v=>[A,rowP v e size m xs])) :
 Ct P W f args Hpre (fun x:Option Addr × Nat=>.tuple #[.slice x.1 m x.2,.nilIface]) (fun x=>[A,rowP (.slice x.1 m x.2) e size m xs]):=
 ⟨fun R w s=>(h.go R w s).mono fun en w' ⟨v,he,st⟩=>by
  have hrow:=St.row (v:=v) (e:=e) (size:=size) (n:=m) (xs:=xs) st (.there .here)
  rcases hrow.2 with ⟨hv,q⟩|⟨g,cap,cur,hv,_⟩
  ·subst hv
   subst q
   exact ⟨(none,0),he,st⟩
  ·subst hv
   exact ⟨(some ⟨g,0,none⟩,cap),he,st⟩⟩
end
end Go.Proofs.YtnbgcimalpdfoaaGreatDoor
namespace Go.Proofs.YtnbgcimalpdfoaaGreatDoor
open Go Go.RowKit
section
variable {W:World} {F:Nat→Addr} {q s d n g:Nat} {D:Dsk}
instance fn_restore:FnIs Tryz.prog 172:=⟨by kernel_rfl⟩
theorem sload0_ct (hE:ErrsOn L37 W F) (hE8:ErrsOn L8 W F) (hN:NibAt W) (h1:64≤n) (h2:n≤178) (v:Nat) (hv:1≤v∧v≤1099511627776) (life:Int) (hG:Good n [] v D) :
 Ct Tryz.prog W 114 [.pointer (some ⟨s,0,none⟩)] [stP s d q n 0 none life false,DiskP d D] (fun _:Nat=>.tuple #[]) (fun q'=>[stP s d q' n (v:Nat) none life false,DiskP d D,tbP q' none 0]):=by
 have e1:W.cell? ⟨14,0,none⟩=some (errV F 1):=hE.at_ 1 (by decide)
 have e2:W.cell? ⟨15,0,none⟩=some (errV F 2):=hE.at_ 2 (by decide)
 have e3:W.cell? ⟨16,0,none⟩=some (errV F 3):=hE.at_ 3 (by decide)
 have e5:W.cell? ⟨18,0,none⟩=some (errV F 5):=hE.at_ 5 (by decide)
 have e15:W.cell? ⟨4,0,none⟩=some (errV F 15):=hE.at_ 15 (by decide)
 obtain ⟨f1,f2,f3,f4⟩:=lay_fit h1 v
 have hA:=layA_le (n:=n) (by omega)
 have hDn:=hG.nn
 have ho:=hG.rest.calm.1
 obtain ⟨g1,g2,g3,g4⟩:=hG.read h1 (by omega) hv (by rw [snap_nil];simp;omega)
 have g5:=hG.log0 h1 h2 hv
 have hvp:=vu_pos n
 have hvn:=vu_len n
 obtain ⟨hd,hhd⟩:∃ hd,hd=hdrB n 1:=⟨_,rfl⟩
 have hdl:hd.length=(vu n).length+1:=by rw [hhd];unfold hdrB;rw [List.length_append];rfl
 have hru1:ru (hd.drop 0)=.ok n [1]:=by
  rw [List.drop_zero,hhd]
  exact ru_vu n (by omega) [1]
 have hru2:ru (hd.drop (vu n).length)=.ok 1 []:=by
  rw [hhd]
  unfold hdrB
  rw [List.drop_left]
  rfl
 have cr:Ct Tryz.prog W 106 [.pointer (some ⟨d,0,none⟩),.int .i64 0] [DiskP d D] (fun _:Unit=>.tuple #[strV hd,.int .i64 (v:Nat),.nilIface]) (fun _=>[DiskP d D]):=by
  have:=sread_ct (W:=W) (p:=d) (D:=D) hE8 hN (by omega) 0
  rw [g1,g2,g3,snap_nil,show ([0]:List UInt8).length=1 from rfl,← hhd] at this
  exact this
 have crd:=rread_ct (W:=W) hd
 have cu:∀ g,Ct Tryz.prog W 166 [.pointer (some ⟨g,0,none⟩)] [rdP g hd 0] (fun _:Unit=>.tuple #[.int .u64 (n:Nat),.nilIface]) (fun _=>[rdP g hd (vu n).length]):=fun g=>by
  have:=ruint_ct (W:=W) (F:=F) (p:=g) (s:=hd) (a:=0) (by omega) (by omega) e1 e2 (.ok n [1]) hru1
  rw [Nat.zero_add] at this
  exact this
 have cup:∀ g,Ct Tryz.prog W 168 [.pointer (some ⟨g,0,none⟩),.int .i64 (234*layA n:Nat)] [rdP g hd (vu n).length] (fun _:Unit=>.tuple #[.int .i64 1,.nilIface]) (fun _=>[rdP g hd ((vu n).length+1)]):=fun g=>by
  have:=rupto_ct (W:=W) (F:=F) (p:=g) (s:=hd) (a:=(vu n).length) (234*layA n) (by omega) (by omega) (by omega) e1 e2 e3 (.ok 1 []) hru2
  have u1:uptN (234*layA n) (.ok 1 [])=1:=(if_neg (by omega):(if 234*layA n<1 then 0 else 1)=1)
  have u2:uptE (234*layA n) (.ok 1 [])=0:=(if_neg (by omega):(if 234*layA n<1 then 3 else 0)=0)
  have u3:uptL (234*layA n) (.ok 1 [])=1:=(if_neg (by omega):(if 234*layA n<1 then 0 else (vu 1).length)=(vu 1).length)
  rw [u1,u2,u3] at this
  exact this
 have cd:∀ g,Ct Tryz.prog W 169 [.pointer (some ⟨g,0,none⟩)] [rdP g hd ((vu n).length+1)] (fun _:Unit=>.nilIface) (fun _=>[rdP g hd ((vu n).length+1)]):=fun g=>by
  have:=rdone_ct (W:=W) (F:=F) (p:=g) (s:=hd) (a:=(vu n).length+1) (by omega) (by omega) e5
  rw [if_neg (by omega)] at this
  exact this
 have cm:=must_ct (W:=W)
 have cc:=corrupt_ct (W:=W) hE
 have cun:=unless_ct (W:=W) (errV F 15)
 have cro:=fun q v=>sroom_ct (W:=W) (s:=s) (d:=d) (q:=q) (n:=n) v none life false (by omega)
 have csz:Ct Tryz.prog W 104 [.pointer (some ⟨d,0,none⟩)] [DiskP d D] (fun _:Unit=>.int .i64 (n:Nat)) (fun _=>[DiskP d D]):=by
  have:=size_ct (W:=W) (p:=d) (D:=D)
  rw [hDn] at this
  exact this
 have car:Ct Tryz.prog W 171 [.pointer (some ⟨d,0,none⟩),.int .i64 (areaAt n v:Nat),.int .i64 (layA n:Nat),.int .u64 (v:Nat),.int .i64 1] [DiskP d D] (fun _:Unit=>.tuple #[strV [0],.nilIface]) (fun _=>[DiskP d D]):=by
  have:=aread_ct (W:=W) (p:=d) (D:=D) hE8 e15 hN (by omega) (areaAt n v:Nat) (layA n:Nat) (v:Nat) 1
  have g6:areaR D (areaAt n v:Nat) (layA n:Nat) (v:Nat) 1=([0],0):=g4
  rw [g6] at this
  exact this
 have cre:=restore0_ct (W:=W) hE
 have crp:Ct Tryz.prog W 173 [.pointer (some ⟨d,0,none⟩),.int .i64 (logAt n:Nat),.int .i64 (logN n:Nat),.int .i64 (v:Nat)] [DiskP d D] (fun x:Option Addr × Nat=>.tuple #[.slice x.1 0 x.2,.nilIface]) (fun x=>[DiskP d D,rowP (.slice x.1 0 x.2) 9 1 0 []]):=by
  have h:=replay_ct (W:=W) (p:=d) (D:=D) hE8 hN (logAt n:Nat) (logN n:Nat) v (by omega) ho ⟨by omega,by omega,by omega,by omega,by omega,by omega,by omega⟩
  rw [g5] at h
  exact Ct.rowSl h
 have csi:∀ q,Ct Tryz.prog W 109 [.pointer (some ⟨q,0,none⟩)] [tbP q none 0] (fun _:Unit=>.int .i64 1) (fun _=>[tbP q none 0]):=fun q=>by
  have:=ssize_ct (W:=W) (N:=[]) (p:=q) (b:=0) (TbOk.nil []) (by rw [snap_nil];simp)
  refine ⟨fun R w st=>?_⟩
  have h2:=this.go R w (st.mono fun g hg=>by
   obtain ⟨x1,x2,y1,y2,y3,y4,y5⟩:=hg
   exact ⟨x1,x2,y1,y2,y3,y4,arNil_star _ y5⟩)
  refine h2.mono fun e w' ⟨x,he,hs⟩=>⟨x,he,hs.mono fun g hg=>?_⟩
  obtain ⟨x1,x2,y1,y2,y3,y4,z1,z2,z3,z4,z5,z6,z7⟩:=hg
  exact ⟨x1,x2,y1,y2,y3,y4,starL_le z5 z7⟩
 clear g1 g2 g3 g4 g5 hru1 hru2 hG hhd
 have w1:IntKind.u64.wrap ((n:Nat):Int)=((n:Nat):Int):=zCc _ (by omega)
 have w2:IntKind.u64.wrap ((v:Nat):Int)=((v:Nat):Int):=zCc _ (by omega)
 obtain ⟨m,hm⟩:∃ m:Nat,((v:Nat):Int) % 2=(m:Nat):=⟨v % 2,by omega⟩
 have hm2:m<2:=by omega
 have hx:∀ z,(stC d z n 0 none life false)[0+1+0+((m:Nat):Int).toNat*1]? = some (.int .i64 (areaAt n v:Nat)):=fun z=>by
  unfold areaAt
  rcases (show m=0∨m=1 by omega) with rfl|rfl
  ·rw [if_pos (by omega)];rfl
  ·rw [if_neg (by omega)];rfl
 have qe:decide (((n:Nat):Int)=((n:Nat):Int))=true:=decide_eq_true rfl
 have qs:decide ((1:Int)≤((234*layA n:Nat):Int))=true:=decide_eq_true (by omega)
 refine Ct.enter Tryz.func114 rfl Tryz.ntmps114 (by simp) (fun R=>?_)
 repeat' (first|(refine zAd ?_;first|(refine zAc xE crp xP rfl (fun x=>?_);obtain ⟨xa,xc⟩:=x)|(refine zAc xE cre xP rfl (fun q'=>?_))|(refine zAc xE car xP rfl (fun _=>?_))|(refine zAc xE cun xP rfl (fun _=>?_))|(refine zAc xE csz xP rfl (fun _=>?_))|(refine zAc xE (cd _) xP rfl (fun _=>?_))|(refine zAc xE (cup _) xP rfl (fun _=>?_))|(refine zAc xE (cro _ _) xP rfl (fun _=>?_))|(refine zAc xE cc xP rfl (fun _=>?_))|(refine zAc xE (cu _) xP rfl (fun _=>?_))|(refine zAc xE crd xP rfl (fun g=>?_))|(refine zAc xE cm xP rfl (fun _=>?_))|(refine zAc xE cr xP rfl (fun _=>?_)))|(refine zAn ?_;first|refine zAa (Ev_load rfl xS (hx _)) ?_|refine zAa (zAr rfl e15) ?_)|(refine zBe ?_;first|refine zAa (zAs rfl w2) ?_|refine zAa (zAs rfl w1) ?_)|(refine ek_rem ?_;refine zAa (Ev_rem_w rfl rfl (by omega) hm) ?_)|(refine zAv ?_;refine zAa (zAh rfl rfl qe) ?_)|refine xst ?_|(refine xsa ?_;intro _)|(refine xsb ?_ ?_ <;>intro _<;>try (exfalso;omega))|refine xsc ?_|(refine zAb (id:=8) plUEM4 (by kernel_rfl) (by kernel_rfl) ?_)|(refine zAb (id:=9) plUEM5 (by kernel_rfl) (by kernel_rfl) ?_)|(refine zAb (id:=12) plUEM2 (by kernel_rfl) (by kernel_rfl) ?_)|(refine zAb (id:=21) plUEM6 (by kernel_rfl) (by kernel_rfl) ?_)|refine zAj ?_ ?_|refine zAi rfl rfl rfl rfl rfl ?_ ?_|refine zAf ?_ ?_|exact Rech.nil|fail)
 refine zBm (fun _:Unit=>[(0,.pointer (some ⟨s,0,none⟩)),(3,.int .i64 (v:Nat)),(109,.int .i64 0),(110,.int .i64 0)]) (fun _=>[stP s d q' n 0 none life false,DiskP d D,tbP q' none 0]++R) (fun _=>0) () xB (xN) (fun _=>?_)
 have ql:decide ((0:Int)<0)=false:=rfl
 repeat' (first|(refine zAd ?_;first|(refine zAc xE cun xP rfl (fun _=>?_))|(refine zAc xE (cro _ _) xP rfl (fun _=>?_))|(refine zAc xE (csi _) xP rfl (fun _=>?_)))|(refine zAn ?_;refine zAa (zAr rfl e15) ?_)|(refine zAm ?_;refine zAa (zAe rfl rfl ql) ?_)|(refine ek_leq ?_;refine zAa (zBy rfl rfl qs) ?_)|refine xst ?_|(refine xsa ?_;intro _)|(refine xsb ?_ ?_ <;>intro _<;>try (exfalso;omega))|refine xsc ?_|(refine zAb (id:=8) plUEM4 (by kernel_rfl) (by kernel_rfl) ?_)|(refine zAb (id:=9) plUEM5 (by kernel_rfl) (by kernel_rfl) ?_)|(refine zAb (id:=12) plUEM2 (by kernel_rfl) (by kernel_rfl) ?_)|(refine zAb (id:=21) plUEM6 (by kernel_rfl) (by kernel_rfl) ?_)|refine zAj ?_ ?_|refine zAi rfl rfl rfl rfl rfl ?_ ?_|refine zAf ?_ ?_|exact Rech.nil|fail)
 all_goals (exact xdn q')
end
end Go.Proofs.YtnbgcimalpdfoaaGreatDoor
namespace Go.Proofs.YtnbgcimalpdfoaaGreatDoor
open Go Go.RowKit
section
variable {W:World} {F:Nat→Addr} {q s d n g:Nat} {D:Dsk}
instance fn_over:FnIs Tryz.prog 107:=⟨by kernel_rfl⟩
instance fn_size:FnIs Tryz.prog 109:=⟨by kernel_rfl⟩
theorem over_ct (h1:64≤n) (h2:n≤65536) (hn:D.n=n):Ct Tryz.prog W 107 [.pointer (some ⟨d,0,none⟩)] [DiskP d D] (fun x:Nat × Nat=>.pointer (some ⟨x.1,0,none⟩)) (fun x=>[stP x.1 d x.2 n 0 none D.life false,DiskP d D,tbP x.2 none 0]):=by
 have csz:Ct Tryz.prog W 104 [.pointer (some ⟨d,0,none⟩)] [DiskP d D] (fun _:Unit=>.int .i64 (n:Nat)) (fun _=>[DiskP d D]):=by
  have:=size_ct (W:=W) (p:=d) (D:=D)
  rw [hn] at this
  exact this
 have cl:=layoutOf_ct (W:=W) h1 h2
 have ct:=tnew_ct (W:=W)
 have cf:=life_ct (W:=W) (p:=d) (D:=D)
 refine Ct.enter Tryz.func107 rfl Tryz.ntmps107 (by simp) (fun R=>?_)
 repeat' (first|(refine zBu ?_;refine zBr rfl xF rfl (fun s=>?_))|(refine zAd ?_;first|(refine zAc xE cf xP rfl (fun _=>?_))|(refine zAc xE ct xP rfl (fun q=>?_))|(refine zAc xE cl xP rfl (fun _=>?_))|(refine zAc xE csz xP rfl (fun _=>?_)))|(refine zBb ?_;refine zAa (zBc xV xW) ?_)|refine xst ?_|(refine xsa ?_;intro _)|(refine xsb ?_ ?_ <;>intro _<;>try (exfalso;omega))|refine xsc ?_|fail)
 all_goals (exact xdn (s,q))
instance fn_fold:FnIs Tryz.prog 111:=⟨by kernel_rfl⟩
theorem sformat0_ct (_hE:ErrsOn L37 W F) (hE8:ErrsOn L8 W F) (hN:NibAt W) (h1:64≤n) (h2:n≤65536):Ct Tryz.prog W 55 [.pointer (some ⟨d,0,none⟩),.slice none 0 0] [DiskP d (Dsk.blank n)] (fun _:Unit=>.nilIface) (fun _=>[DiskP d (fldD (Dsk.blank n) n 1 [])]):=by
 have hA:=layA_le h2
 obtain ⟨f1,f2,f3,f4⟩:=lay_fit h1 0
 have hb:=blank_rest n (by omega) h2
 obtain ⟨t1,t2,t3⟩:=Holds.told hb (a:=0) (by show 0+2≤n;omega) (Holds.blank n 0 (by omega))
 obtain ⟨g1,g2,g3,g4,g5,g6,g7,g8⟩:=(Ready.blank h1 h2).fold [] h1 h2 (by omega) (by rw [snap_nil];simp;omega)
 rw [if_pos rfl] at t1
 obtain ⟨ea,hea⟩:=errV_ne (E:=F) (show (14:Nat)≠0 by omega)
 have cr:Ct Tryz.prog W 106 [.pointer (some ⟨d,0,none⟩),.int .i64 0] [DiskP d (Dsk.blank n)] (fun _:Unit=>.tuple #[strV [],.int .i64 0,.iface 318 (.pointer (some ea))]) (fun _=>[DiskP d (Dsk.blank n)]):=by
  have:=sread_ct (W:=W) (p:=d) (D:=Dsk.blank n) hE8 hN h2 0
  have e0:slotE (Dsk.blank n) 0=14:=t1
  rw [e0,hea] at this
  have e1:slotS (Dsk.blank n) 0=[]:=by unfold slotS;rw [e0];rfl
  have e2:slotN (Dsk.blank n) 0=0:=by unfold slotN;rw [e0];rfl
  rw [e1,e2] at this
  exact this
 have csz:Ct Tryz.prog W 104 [.pointer (some ⟨d,0,none⟩)] [DiskP d (Dsk.blank n)] (fun _:Unit=>.int .i64 (n:Nat)) (fun _=>[DiskP d (Dsk.blank n)]):=size_ct (W:=W) (p:=d) (D:=Dsk.blank n)
 have cof:Ct Tryz.prog W 105 [.pointer (some ⟨d,0,none⟩)] [DiskP d (Dsk.blank n)] (fun _:Unit=>.bool false) (fun _=>[DiskP d (Dsk.blank n)]):=off_ct (W:=W) (p:=d) (D:=Dsk.blank n)
 have cov:=over_ct (W:=W) (d:=d) (D:=Dsk.blank n) h1 h2 rfl
 have cap:=fun q=>bapply_ct (W:=W) (N:=[]) (ta:=none) (r:=[]) (p:=q) (tb:=0) (TbOk.nil []) noP none 0 [] ⟨fun w H R _ _ h=>absurd rfl h⟩ (by simp)
 have csi:=fun (q:Nat) (N:List Nd) (a:Option Addr) (b:Int) (hT:TbOk N a [])=>ssize_ct (W:=W) (N:=N) (p:=q) (b:=b) hT (by rw [snap_nil];simp)
 have cro:=fun s q=>sroom_ct (W:=W) (s:=s) (d:=d) (q:=q) (n:=n) 0 none (Dsk.blank n).life false h2
 have cfo:=fun (s q:Nat) (N:List Nd) (a:Option Addr) (b:Int) (hT:TbOk N a [])=>sfold_ct (W:=W) (s:=s) (d:=d) (q:=q) (b:=b) (D:=Dsk.blank n) hE8 hN h1 h2 0 (by omega) none (Dsk.blank n).life false hT rfl (by rw [snap_nil];simp;omega) (by show ([]:List (Nat × List UInt8)).length+65536<1073741823;simp) g1 g6 g7 g2 g8 g3.nn
 obtain ⟨D0,hD0⟩:∃ D0,D0=Dsk.blank n:=⟨_,rfl⟩
 obtain ⟨D2,hD2⟩:∃ D2,D2=fldD (Dsk.blank n) n 1 []:=⟨_,rfl⟩
 have q1:decide ((n:Int)<64)=false:=decide_eq_false (by omega)
 have q2:decide (((234*layA n:Nat):Int)<(([0]:List UInt8).length:Nat))=false:=decide_eq_false (by simp;omega)
 rw [← hD2] at cfo ⊢
 simp only [← hD0] at cr csz cof cov cro cfo ⊢
 clear hD0 hD2 g1 g2 g3 g4 g5 g6 g7 g8 t1 t2 t3 hb
 refine Ct.enter Tryz.func55 rfl Tryz.ntmps55 (by simp) (fun R=>?_)
 refine KJ.noP ?_
 refine KJ.arNil ?_
 repeat' (first|(refine zAd ?_;first|(refine zAc xE (cfo _ _ _ _ _ hT) xP rfl (fun g=>?_))|(refine zAc xE (cro _ _) xP rfl (fun _=>?_))|(refine zAc xE (csi _ _ _ _ hT) xP rfl (fun _=>?_))|(refine zAc xE (cap _) xP rfl (fun x=>?_);obtain ⟨⟨N,a,b⟩,gN,hT⟩:=x;dsimp only at gN hT ⊢)|(refine zAc xE cov xP rfl (fun x=>?_);obtain ⟨s,q⟩:=x)|(refine zAc xE cr xP rfl (fun _=>?_))|(refine zAc xE cof xP rfl (fun _=>?_))|(refine zAc xE csz xP rfl (fun _=>?_)))|(refine zAm ?_;refine zAa (zAe rfl rfl q1) ?_)|(refine zBg ?_;refine zAa (zAq rfl rfl q2) ?_)|refine xst ?_|(refine xsa ?_;intro _)|(refine xsb ?_ ?_ <;>intro _<;>try (exfalso;omega))|refine xsc ?_|fail)
 all_goals (exact xdn ())
end
end Go.Proofs.YtnbgcimalpdfoaaGreatDoor
