/-
  StW3, StW4, JLe4, StW5, StW6.
-/
import Derived.Test.YtgipenahkmbelaaGreatDoorTDW
import Derived.Test.YtgipenahkmbelaaGreatDoorTDX
import Derived.Test.YtgipenahkmbelaaGreatDoorTEZ
import Derived.Test.YtgipenahkmbelaaGreatDoorTCE
set_option maxHeartbeats 64000000
namespace Go.Proofs.YtgipenahkmbelaaGreatDoor
open Go Go.RowKit
abbrev plTEC0:Pl:=(.op 0 (.op 1 (.op 2 (.op 3 (.op 4 (.op 5 (.op 6 (.op 7 (.op 8 (.ef 9 [4,3,2,1,0] (.op 10 (.op 11 .nil))))))))))))
abbrev plTEC1:Pl:=(.op 0 (.op 1 (.op 2 (.op 3 (.op 4 (.op 5 (.op 6 (.op 7 (.op 8 (.op 9 (.op 10 (.op 11 (.op 12 (.op 13 (.op 14 (.op 15 (.op 16 (.op 17 (.op 18 (.op 19 (.ef 20 [] (.op 21 (.op 22 (.op 23 (.op 24 (.op 25 (.op 26 (.op 27 (.op 28 (.ef 29 [27,26,25,24,23] (.ef 30 [] (.op 31 (.op 32 .nil)))))))))))))))))))))))))))))))))
abbrev plTEC2:Pl:=(.op 0 (.op 1 (.op 2 (.op 3 (.op 4 (.op 5 (.op 6 (.op 7 (.op 8 (.op 9 (.op 10 (.op 11 (.op 12 (.op 13 (.op 14 (.ef 15 [] (.op 16 (.op 17 (.op 18 (.op 19 (.op 20 .nil)))))))))))))))))))))
abbrev plTEC3:Pl:=(.op 0 (.op 1 (.op 2 (.ef 3 [] .nil))))
section
variable {W:World} {F:Nat→Addr} {N:List Nd} {a:Option Addr} {r:Rows} {q s d n:Nat} {b:Int} {D:Dsk}
instance fn_snapshot:FnIs Tryz.prog 95:=⟨by kernel_rfl⟩
abbrev jouP (g d:Nat) (n v:Nat) (life:Int):SP:=zAh g [.pointer (some ⟨d,0,none⟩),.int .i64 (logAt n:Nat),.int .i64 (logN n:Nat),.int .i64 (v:Nat),.int .i64 0,.int .i64 life,.bool false] 205
theorem sfold_ct (hE:ErrsOn L8 W F) (hN:NibAt W) (h1:64≤n) (h2:n≤65536) (v:Nat) (hv:v+1≤1099511627776) (lg:Option Addr) (life:Int) (dead:Bool) (hT:TbOk N a r) (hn:D.n=n) (hr:(zBd r).length≤234*layA n) (hul:D.und.length+65536<1073741823)
 (hA:(areaW D (areaAt n (v+1)) (layA n) ((v+1:Nat):Int) (zBd r)).1=0) (hu2:(fldA D n (v+1) r).und=[]) (hn2:(fldA D n (v+1) r).n=n) (hS:slotWE (fldA D n (v+1) r) 0 ((v+1:Nat):Int) (hdrB n (zBd r).length)=0) (ho:(fldD D n (v+1) r).off=false) (hn3:(fldD D n (v+1) r).n=n) :
 Ct Tryz.prog W 66 [.pointer (some ⟨s,0,none⟩)] [stP s d q n (v:Nat) lg life dead,DiskP d D,tbP q a b,arP N] (fun _:Nat=>.nilIface)
  (fun g=>[stP s d q n ((v+1:Nat):Int) (some ⟨g,0,none⟩) life dead,DiskP d (fldD D n (v+1) r),tbP q a b,arP N,jouP g d n (v+1) (fldD D n (v+1) r).life]):=by
 obtain ⟨f1,f2,f3,f4⟩:=lay_fit h1 (v+1)
 have hA2:=layA_le h2
 have cs:=snapshot_ct (W:=W) (p:=q) (b:=b) hT (by omega)
 have cA:Ct Tryz.prog W 98 [.pointer (some ⟨d,0,none⟩),.int .i64 (areaAt n (v+1):Nat),.int .i64 (layA n:Nat),.int .u64 ((v+1:Nat):Int),strV (zBd r)] [DiskP d D] (fun _:Unit=>.nilIface) (fun _=>[DiskP d (fldA D n (v+1) r)]):=by
  have:=awrite_ct (W:=W) (p:=d) (D:=D) hE hN (by omega) hul (areaAt n (v+1):Nat) (layA n:Nat) ((v+1:Nat):Int) (zBd r)
  rw [hA] at this
  exact this
 have cW:Ct Tryz.prog W 99 [.pointer (some ⟨d,0,none⟩),.int .i64 0,.int .i64 ((v+1:Nat):Int),strV (hdrB n (zBd r).length)] [DiskP d (fldA D n (v+1) r)] (fun _:Unit=>.nilIface) (fun _=>[DiskP d (fldD D n (v+1) r)]):=by
  have:=swrite_ct (W:=W) (p:=d) (D:=fldA D n (v+1) r) hE hN (by omega) (by rw [hu2];simp) 0 ((v+1:Nat):Int) (hdrB n (zBd r).length)
  rw [hS] at this
  exact this
 have cB:=begin_ct (W:=W) (p:=d) (D:=fldD D n (v+1) r) (by omega) ho (logAt n:Nat) (logN n:Nat) ((v+1:Nat):Int) ⟨by omega,by omega,by omega,by omega,by omega,by omega,by omega⟩
 obtain ⟨D1,hD1⟩:∃ D1,D1=fldA D n (v+1) r:=⟨_,rfl⟩
 obtain ⟨D2,hD2⟩:∃ D2,D2=fldD D n (v+1) r:=⟨_,rfl⟩
 rw [← hD1,← hD2] at cW
 rw [← hD1] at cA
 rw [← hD2] at cB ⊢
 clear hA hS hD1 hD2 hu2 hn2
 have csz:Ct Tryz.prog W 59 [.pointer (some ⟨d,0,none⟩)] [DiskP d D] (fun _:Unit=>.int .i64 (n:Nat)) (fun _=>[DiskP d D]):=by
  have:=size_ct (W:=W) (p:=d) (D:=D)
  rw [hn] at this
  exact this
 obtain ⟨L,hL⟩:∃ L,L=zBd r:=⟨_,rfl⟩
 rw [← hL] at hr cs cA cW
 clear hL
 have cn:=wnew_ct (W:=W)
 have cu1:∀ g,Ct Tryz.prog W 97 [.pointer (some ⟨g,0,none⟩),.int .u64 (n:Nat)] [WrP g []] (fun _:Unit=>.tuple #[]) (fun _=>[WrP g (vu n)]):=fun g=>by
  have:=wuint_ct (W:=W) (p:=g) (l:=[]) n (by omega) (by simp)
  rw [List.nil_append] at this
  exact this
 have hvn:=vu_len n
 have hvp:=vu_pos n
 have cu2:∀ g,Ct Tryz.prog W 97 [.pointer (some ⟨g,0,none⟩),.int .u64 (L.length:Nat)] [WrP g (vu n)] (fun _:Unit=>.tuple #[]) (fun _=>[WrP g (hdrB n L.length)]):=fun g=>wuint_ct (W:=W) (p:=g) (l:=vu n) L.length (by omega) (by omega)
 have co:∀ g,Ct Tryz.prog W 100 [.pointer (some ⟨g,0,none⟩)] [WrP g (hdrB n L.length)] (fun _:Unit=>strV (hdrB n L.length)) (fun _=>[WrP g (hdrB n L.length)]):=fun g=>wout_ct (W:=W) (by unfold hdrB;rw [List.length_append];omega)
 have w1:IntKind.u64.wrap ((n:Nat):Int)=((n:Nat):Int):=u64_wrap _ (by omega)
 have w2:IntKind.u64.wrap ((L.length:Nat):Int)=((L.length:Nat):Int):=u64_wrap _ (by omega)
 have w3:IntKind.u64.wrap ((v+1:Nat):Int)=((v+1:Nat):Int):=u64_wrap _ (by omega)
 have q0:decide ((1099511627776:Int)≤(v:Nat))=false:=decide_eq_false (by omega)
 have fin:∀ m:Nat,((v+1:Nat):Int) % 2=(m:Nat)→(stC d q n (v:Nat) lg life dead)[0+1+0+((m:Nat):Int).toNat*1]? = some (.int .i64 (areaAt n (v+1):Nat)):=fun m hm=>by
  unfold areaAt
  rcases (show m=0∨m=1 by omega) with rfl|rfl
  ·rw [if_pos (by omega)];rfl
  ·rw [if_neg (by omega)];rfl
 obtain ⟨m,hm⟩:∃ m:Nat,((v+1:Nat):Int) % 2=(m:Nat):=⟨(v+1) % 2,by omega⟩
 have hx:=fin m hm
 have hm2:m<2:=by omega
 clear fin
 refine Ct.enter Tryz.func66 rfl Tryz.ntmps66 (by simp) (fun R=>?_)
 repeat' (first|(refine zAd ?_;first|(refine zAc xE cB xP rfl (fun g=>?_))|(refine zAc xE cW xP rfl (fun _=>?_))|(refine zAc xE cA xP rfl (fun _=>?_))|(refine zAc xE (co _) xP rfl (fun _=>?_))|(refine zAc xE (cu2 _) xP rfl (fun _=>?_))|(refine zAc xE (cu1 _) xP rfl (fun _=>?_))|(refine zAc xE csz xP rfl (fun _=>?_))|(refine zAc xE cn xP rfl (fun pw=>?_))|(refine zAc xE cs xP rfl (fun _=>?_)))|(refine zAm ?_;refine zAb (Ev_load rfl xS hx) ?_)|(refine zBu ?_;first|refine zAb (zAw rfl w3) ?_|refine zAb (zAw rfl w2) ?_|refine zAb (zAw rfl w1) ?_)|(refine zBh ?_;refine zAb (zAi (r:=((v+1:Nat):Int)) rfl rfl (by omega) (by omega)) ?_)|(refine ek_rem ?_;refine zAb (Ev_rem_w rfl rfl (by omega) hm) ?_)|(refine ek_geq ?_;refine zAb (zBk rfl rfl q0) ?_)|refine xst ?_|(refine xsa ?_;intro _)|(refine xsb ?_ ?_ <;>intro _<;>try (exfalso;omega))|refine xsc ?_|(refine zAa (id:=3) plTEC0 (by kernel_rfl) (by kernel_rfl) ?_)|(refine zAa (id:=7) plTEC1 (by kernel_rfl) (by kernel_rfl) ?_)|(refine zAa (id:=10) plTEC2 (by kernel_rfl) (by kernel_rfl) ?_)|refine zAp ?_ ?_|refine zAn rfl rfl rfl rfl rfl ?_ ?_|refine zAg ?_ ?_|exact Rech.nil|fail)
 all_goals (exact xdn g)
end
end Go.Proofs.YtgipenahkmbelaaGreatDoor
namespace Go.Proofs.YtgipenahkmbelaaGreatDoor
open Go Go.RowKit
section
variable {W:World} {F:Nat→Addr} {q s d n g:Nat} {D:Dsk}
instance fn_must:FnIs Tryz.prog 102:=⟨by kernel_rfl⟩
theorem must_ct:Ct Tryz.prog W 102 [.nilIface] [] (fun _:Unit=>.tuple #[]) (fun _=>[]):=by
 refine Ct.enter Tryz.func102 rfl Tryz.ntmps102 (by simp) (fun R=>?_)
 repeat' (first|refine xst ?_|(refine xsa ?_;intro _)|(refine xsb ?_ ?_ <;>intro _<;>try (exfalso;omega))|refine xsc ?_|fail)
 all_goals (exact xdn ())
theorem unless_ct (e:Value):Ct Tryz.prog W 108 [.bool true,e] [] (fun _:Unit=>.tuple #[]) (fun _=>[]):=by
 refine Ct.enter Tryz.func108 rfl Tryz.ntmps108 (by simp) (fun R=>?_)
 repeat' (first|refine xst ?_|(refine xsa ?_;intro _)|(refine xsb ?_ ?_ <;>intro _<;>try (exfalso;omega))|refine xsc ?_|fail)
 all_goals (exact xdn ())
theorem corrupt_ct (hE:ErrsOn L16 W F):Ct Tryz.prog W 105 [.nilIface] [] (fun _:Unit=>.tuple #[]) (fun _=>[]):=by
 have e12:W.cell? ⟨3,0,none⟩=some (errV F 12):=hE.at_ 12 (by decide)
 have e15:W.cell? ⟨8,0,none⟩=some (errV F 15):=hE.at_ 15 (by decide)
 have cu:=unless_ct (W:=W) (errV F 15)
 have cm:=must_ct (W:=W)
 refine Ct.enter Tryz.func105 rfl Tryz.ntmps105 (by simp) (fun R=>?_)
 repeat' (first|(refine zAd ?_;first|(refine zAc xE cm xP rfl (fun _=>?_))|(refine zAc xE cu xP rfl (fun _=>?_)))|(refine zAm ?_;first|refine zAb (zAt rfl e15) ?_|refine zAb (zAt rfl e12) ?_)|(refine zBz ?_;refine zAb (Ev_neqE (a:=0) (b:=12) hE rfl rfl (.inl rfl) (by decide) rfl) ?_)|refine xst ?_|(refine xsa ?_;intro _)|(refine xsb ?_ ?_ <;>intro _<;>try (exfalso;omega))|refine xsc ?_|(refine zAa (id:=1) plTEC3 (by kernel_rfl) (by kernel_rfl) ?_)|refine zAp ?_ ?_|refine zAn rfl rfl rfl rfl rfl ?_ ?_|refine zAg ?_ ?_|exact Rech.nil|fail)
 all_goals (exact xdn ())
theorem sroom_ct (v:Int) (lg:Option Addr) (life:Int) (dead:Bool) (h2:n≤65536):Ct Tryz.prog W 65 [.pointer (some ⟨s,0,none⟩)] [stP s d q n v lg life dead] (fun _:Unit=>.int .i64 (234*layA n:Nat)) (fun _=>[stP s d q n v lg life dead]):=by
 have hA:=layA_le h2
 have cr:Ct Tryz.prog W 94 [.int .i64 (layA n:Nat)] [] (fun _:Unit=>.int .i64 (234*layA n:Nat)) (fun _=>[]):=by
  have:=room9_ct (W:=W) (layA n:Nat)
  rw [show roomI (layA n:Nat)=(234*layA n:Nat) by unfold roomI;omega] at this
  exact this
 refine Ct.enter Tryz.func65 rfl Tryz.ntmps65 (by simp) (fun R=>?_)
 repeat' (first|(refine zAd ?_;refine zAc xE cr xP rfl (fun _=>?_))|refine xst ?_|(refine xsa ?_;intro _)|(refine xsb ?_ ?_ <;>intro _<;>try (exfalso;omega))|refine xsc ?_|fail)
 all_goals (exact xdn ())
end
end Go.Proofs.YtgipenahkmbelaaGreatDoor
namespace Go.Proofs.YtgipenahkmbelaaGreatDoor
open Go Go.RowKit
section
variable {P:Program} {W:World} {n:Nat} {k:KK} {E:Env} {H R:List SP} {x z:Operand} {t e:TypeId}
theorem Ct.rowSl {P:Program} {W:World} {f:FuncId} {args:List Value} {Hpre:List SP} {A:SP} {e size m:Nat} {xs:List Value} (h:Ct P W f args Hpre (fun v:Value=>.tuple #[v,.nilIface]) (fun v=>[A,rowP v e size m xs])) :
 Ct P W f args Hpre (fun x:Option Addr × Nat=>.tuple #[.slice x.1 m x.2,.nilIface]) (fun x=>[A,rowP (.slice x.1 m x.2) e size m xs]):=
 ⟨fun R w s=>(h.go R w s).mono fun en w' ⟨v,he,st⟩=>by
  have hrow:=St.row (v:=v) (e:=e) (size:=size) (n:=m) (xs:=xs) st (.there .here)
  rcases hrow.2 with ⟨hv,q⟩|⟨g,cap,cur,hv,_⟩
  ·subst hv
   subst q
   exact ⟨(none,0),he,st⟩
  ·subst hv
   exact ⟨(some ⟨g,0,none⟩,cap),he,st⟩⟩
end
section
variable {W:World} {E:Nat→Addr} {p g:Nat} {D:Dsk}
theorem sync_ct (hE:ErrsOn L8 W E) (at_ n ver used life:Int) (hdn:downB D life false=false) (hul:D.und.length<1073741823):Ct Tryz.prog W 126 [.pointer (some ⟨g,0,none⟩)] [DiskP p D,zAh g [.pointer (some ⟨p,0,none⟩),.int .i64 at_,.int .i64 n,.int .i64 ver,.int .i64 used,.int .i64 life,.bool false] 205] (fun _:Unit=>errV E (if D.flushE=0 then 0 else 12)) (fun _=>[DiskP p D.flushD,zAh g [.pointer (some ⟨p,0,none⟩),.int .i64 at_,.int .i64 n,.int .i64 ver,.int .i64 used,.int .i64 life,.bool (decide (D.flushE≠0))] 205]):=by
 have e12:W.cell? ⟨3,0,none⟩=some (errV E 12):=hE.at_ 12 (by decide)
 have c1:=down_ct (W:=W) (p:=p) (g:=g) (D:=D) at_ n ver used life false
 rw [hdn] at c1
 have c2:=flush_ct (W:=W) (p:=p) (D:=D) hE (by omega)
 obtain ⟨D1,hD1⟩:∃ D1,D1=D.flushD:=⟨_,rfl⟩
 obtain ⟨e,he⟩:∃ e,e=D.flushE:=⟨_,rfl⟩
 rw [← hD1,← he]
 rw [← hD1,← he] at c2
 clear hD1 he
 by_cases hz:e=0
 ·subst hz
  have c2':Ct Tryz.prog W 136 [.pointer (some ⟨p,0,none⟩)] [DiskP p D] (fun _:Unit=>.nilIface) (fun _=>[DiskP p D1]):=c2
  refine Ct.enter Tryz.func126 rfl Tryz.ntmps126 (by simp) (fun R=>?_)
  repeat' (first|(refine zAd ?_;first|(refine zAc xE c2' xP rfl (fun _=>?_))|(refine zAc xE c1 xP rfl (fun _=>?_)))|refine xst ?_|(refine xsa ?_;intro _)|(refine xsb ?_ ?_ <;>intro _<;>try (exfalso;omega))|refine xsc ?_|fail)
  all_goals (exact xdn ())
 ·obtain ⟨ea,hea⟩:=errV_ne (E:=E) hz
  rw [hea] at c2
  rw [if_neg hz,decide_eq_true (show e≠0 from hz)]
  refine Ct.enter Tryz.func126 rfl Tryz.ntmps126 (by simp) (fun R=>?_)
  repeat' (first|(refine zAd ?_;first|(refine zAc xE c2 xP rfl (fun _=>?_))|(refine zAc xE c1 xP rfl (fun _=>?_)))|(refine zAm ?_;refine zAb (zAt rfl e12) ?_)|refine xst ?_|(refine xsa ?_;intro _)|(refine xsb ?_ ?_ <;>intro _<;>try (exfalso;omega))|refine xsc ?_|fail)
  all_goals (exact xdn ())
end
end Go.Proofs.YtgipenahkmbelaaGreatDoor
namespace Go.Proofs.YtgipenahkmbelaaGreatDoor
open Go Go.RowKit
section
variable {W:World} {F:Nat→Addr} {q s d n g:Nat} {D:Dsk}
instance fn_restore:FnIs Tryz.prog 110:=⟨by kernel_rfl⟩
end
end Go.Proofs.YtgipenahkmbelaaGreatDoor
namespace Go.Proofs.YtgipenahkmbelaaGreatDoor
open Go Go.RowKit
section
variable {W:World} {F:Nat→Addr} {q s d n g:Nat} {D:Dsk}
instance fn_over:FnIs Tryz.prog 62:=⟨by kernel_rfl⟩
instance fn_size:FnIs Tryz.prog 64:=⟨by kernel_rfl⟩
theorem over_ct (h1:64≤n) (h2:n≤65536) (hn:D.n=n):Ct Tryz.prog W 62 [.pointer (some ⟨d,0,none⟩)] [DiskP d D] (fun x:Nat × Nat=>.pointer (some ⟨x.1,0,none⟩)) (fun x=>[stP x.1 d x.2 n 0 none D.life false,DiskP d D,tbP x.2 none 0]):=by
 have csz:Ct Tryz.prog W 59 [.pointer (some ⟨d,0,none⟩)] [DiskP d D] (fun _:Unit=>.int .i64 (n:Nat)) (fun _=>[DiskP d D]):=by
  have:=size_ct (W:=W) (p:=d) (D:=D)
  rw [hn] at this
  exact this
 have cl:=layoutOf_ct (W:=W) h1 h2
 have ct:=tnew_ct (W:=W)
 have cf:=life_ct (W:=W) (p:=d) (D:=D)
 refine Ct.enter Tryz.func62 rfl Tryz.ntmps62 (by simp) (fun R=>?_)
 repeat' (first|(refine zBe ?_;refine zBb rfl xF rfl (fun s=>?_))|(refine zAd ?_;first|(refine zAc xE cf xP rfl (fun _=>?_))|(refine zAc xE ct xP rfl (fun q=>?_))|(refine zAc xE cl xP rfl (fun _=>?_))|(refine zAc xE csz xP rfl (fun _=>?_)))|(refine zAy ?_;refine zAb (zAz xV xW) ?_)|refine xst ?_|(refine xsa ?_;intro _)|(refine xsb ?_ ?_ <;>intro _<;>try (exfalso;omega))|refine xsc ?_|fail)
 all_goals (exact xdn (s,q))
instance fn_fold:FnIs Tryz.prog 66:=⟨by kernel_rfl⟩
end
end Go.Proofs.YtgipenahkmbelaaGreatDoor
