/-
  StW8, TxW6, TxW7.
-/
import Derived.Test.YtgipenahkmbelaaGreatDoorTEQ
import Derived.Test.YtgipenahkmbelaaGreatDoorTEC
import Derived.Test.YtgipenahkmbelaaGreatDoorTEM
import Derived.Test.YtgipenahkmbelaaGreatDoorTEI
set_option maxHeartbeats 64000000
namespace Go.Proofs.YtgipenahkmbelaaGreatDoor
open Go Go.RowKit
abbrev plTEP0:Pl:=(.op 0 (.op 1 (.op 2 (.op 3 (.op 4 (.op 5 (.op 6 (.op 7 (.op 8 (.op 9 (.op 10 (.op 11 (.op 12 (.op 13 (.op 14 (.op 15 (.op 16 .nil)))))))))))))))))
abbrev jouU (g d:Nat) (n v used:Nat) (life:Int):SP:=zAh g [.pointer (some ⟨d,0,none⟩),.int .i64 (logAt n:Nat),.int .i64 (logN n:Nat),.int .i64 (v:Nat),.int .i64 (used:Nat),.int .i64 life,.bool false] 205
section
variable {W:World} {F:Nat→Addr} {N:List Nd} {a:Option Addr} {r:Rows} {q s d n g:Nat} {b:Int} {D:Dsk}
instance fn_sdown:FnIs Tryz.prog 121:=⟨by kernel_rfl⟩
instance fn_slargest:FnIs Tryz.prog 123:=⟨by kernel_rfl⟩
instance fn_safter:FnIs Tryz.prog 52:=⟨by kernel_rfl⟩
instance fn_sget:FnIs Tryz.prog 42:=⟨by kernel_rfl⟩
instance fn_clone:FnIs Tryz.prog 80:=⟨by kernel_rfl⟩
instance fn_scommit:FnIs Tryz.prog 84:=⟨by kernel_rfl⟩
theorem sup_ct (v:Int) (lg:Option Addr) (life:Int) (h:downB D life false=false):Ct Tryz.prog W 121 [.pointer (some ⟨s,0,none⟩)] [stP s d q n v lg life false,DiskP d D] (fun _:Unit=>.bool false) (fun _=>[stP s d q n v lg life false,DiskP d D]):=by
 have ho:D.off=false:=by unfold downB at h;cases hh:D.off <;> simp_all
 have hl:D.life=life:=by unfold downB at h;rw [ho] at h;simpa using h
 have c1:Ct Tryz.prog W 60 [.pointer (some ⟨d,0,none⟩)] [DiskP d D] (fun _:Unit=>.bool false) (fun _=>[DiskP d D]):=by rw [← ho];exact off_ct
 have c2:Ct Tryz.prog W 92 [.pointer (some ⟨d,0,none⟩)] [DiskP d D] (fun _:Unit=>.int .i64 D.life) (fun _=>[DiskP d D]):=life_ct
 refine Ct.enter Tryz.func121 rfl Tryz.ntmps121 (by simp) (fun R=>?_)
 repeat' (first|(refine zBz ?_;refine zAb (zCh rfl rfl hl) ?_)|(refine is_fo ?_;(refine FO_call (X:=Unit) xE c1 xP rfl ?_))|(refine is_ro ?_;(refine FO_call (X:=Unit) xE c1 xP rfl ?_))|(refine is_fo ?_;(refine FO_callg (X:=Unit) rfl rfl xE c1 xP rfl ?_))|(refine is_ro ?_;(refine FO_callg (X:=Unit) rfl rfl xE c1 xP rfl ?_))|(refine is_fo ?_;(refine FO_call (X:=Unit) xE c2 xP rfl ?_))|(refine is_ro ?_;(refine FO_call (X:=Unit) xE c2 xP rfl ?_))|(refine is_fo ?_;(refine FO_callg (X:=Unit) rfl rfl xE c2 xP rfl ?_))|(refine is_ro ?_;(refine FO_callg (X:=Unit) rfl rfl xE c2 xP rfl ?_))|refine xst ?_|(refine xsa ?_;intro _)|(refine xsb ?_ ?_ <;>intro _<;>try (exfalso;omega))|refine xsc ?_|(refine zAa (id:=1) plTEP0 (by kernel_rfl) (by kernel_rfl) ?_)|refine zAp ?_ ?_|refine zAn rfl rfl rfl rfl rfl ?_ ?_|refine zAg ?_ ?_|exact Rech.nil|fail)
 all_goals (exact xdn ())
theorem slargest_ct (v:Int) (lg:Option Addr) (life:Int) (dead:Bool) (h2:n≤65536):Ct Tryz.prog W 123 [.pointer (some ⟨s,0,none⟩)] [stP s d q n v lg life dead] (fun _:Unit=>.int .i64 (largestI (logN n:Nat))) (fun _=>[stP s d q n v lg life dead]):=by
 have c1:=largest_ct (W:=W) (logN n:Nat) (by unfold logN;omega)
 refine Ct.enter Tryz.func123 rfl Tryz.ntmps123 (by simp) (fun R=>?_)
 repeat' (first|(refine zAd ?_;refine zAc xE c1 xP rfl (fun _=>?_))|refine xst ?_|(refine xsa ?_;intro _)|(refine xsb ?_ ?_ <;>intro _<;>try (exfalso;omega))|refine xsc ?_|fail)
 all_goals (exact xdn ())
theorem sget_ct (v:Int) (lg:Option Addr) (life:Int) (dead:Bool) (hT:TbOk N a r) (key:List UInt8):Ct Tryz.prog W 42 [.pointer (some ⟨s,0,none⟩),strV key] [stP s d q n v lg life dead,tbP q a b,arP N] (fun _:Unit=>.tuple #[strV ((lk r key).getD []),.bool (lk r key).isSome]) (fun _=>[stP s d q n v lg life dead,tbP q a b,arP N]):=by
 have cg:=tget_ct (W:=W) (p:=q) (b:=b) hT key
 refine Ct.enter Tryz.func42 rfl Tryz.ntmps42 (by simp) (fun R=>?_)
 repeat' (first|(refine zAd ?_;refine zAc xE cg xP rfl (fun _=>?_))|refine xst ?_|(refine xsa ?_;intro _)|(refine xsb ?_ ?_ <;>intro _<;>try (exfalso;omega))|refine xsc ?_|fail)
 all_goals (exact xdn ())
theorem tclone_ct:Ct Tryz.prog W 80 [.pointer (some ⟨q,0,none⟩)] [tbP q a b] (fun x:Nat=>.pointer (some ⟨x,0,none⟩)) (fun x=>[tbP q a b,tbP x a b]):=by
 refine Ct.enter Tryz.func80 rfl Tryz.ntmps80 (by simp) (fun R=>?_)
 repeat' (first|(refine zBc ?_;refine zAu rfl (fun g=>?_))|refine xst ?_|(refine xsa ?_;intro _)|(refine xsb ?_ ?_ <;>intro _<;>try (exfalso;omega))|refine xsc ?_|fail)
 all_goals (exact xdn g)
theorem safter_ct (v:Int) (lg:Option Addr) (life:Int) (dead:Bool) (hT:TbOk N a r) (A:SP) (oa:Option Addr) (oc:Nat) (ops:List BOp) (hL:Lv W opC 3 A oa ops) (hl:r.length+ops.length≤144115188075855872) (hs:(zBd (zAf r ops)).length≤4611686018427387904) :
 Ct Tryz.prog W 52 [.pointer (some ⟨s,0,none⟩),.slice oa ops.length oc] [A,stP s d q n v lg life dead,tbP q a b,arP N] (fun _:{M:List Nd//∀ y ∈ N,y ∈ M}=>.int .i64 ((zBd (zAf r ops)).length:Nat)) (fun M=>[A,stP s d q n v lg life dead,tbP q a b,arP M.1]):=by
 have cc:=tclone_ct (W:=W) (q:=q) (a:=a) (b:=b)
 have ca:=fun x=>bapply_ct (W:=W) (p:=x) (tb:=b) hT A oa oc ops hL hl
 have cz:=fun (x:Nat) (M:List Nd) (a':Option Addr) (b':Int) (h:TbOk M a' (zAf r ops))=>ssize_ct (W:=W) (p:=x) (b:=b') h hs
 refine Ct.enter Tryz.func52 rfl Tryz.ntmps52 (by simp) (fun R=>?_)
 repeat' (first|(refine zAd ?_;first|(refine zAc xE (cz _ _ _ _ hT') xP rfl (fun _=>?_))|(refine zAc xE (ca _) xP rfl (fun y=>?_);obtain ⟨⟨M,a',b'⟩,gM,hT'⟩:=y;dsimp only at gM hT' ⊢)|(refine zAc xE cc xP rfl (fun x=>?_)))|refine xst ?_|(refine xsa ?_;intro _)|(refine xsb ?_ ?_ <;>intro _<;>try (exfalso;omega))|refine xsc ?_|fail)
 all_goals (exact xdn ⟨M,gM⟩)
set_option maxRecDepth 100000 in
theorem scommit_ct (hE8:ErrsOn L8 W F) (e17:W.cell? ⟨5,0,none⟩=some (errV F 17)) (hN:NibAt W) (h1:64≤n) (h2:n≤65536) (v used:Nat) (hv:1≤v∧v≤1099511627776) (hD:Rest D) (hn:D.n=n)
 (hT:TbOk N a r) (A:SP) (oa:Option Addr) (oc:Nat) (ops:List BOp) (hL:Lv W opC 3 A oa ops) (ho:ops.length*40≤140737488355328) (hne:zBy ops≠[]) (hl:r.length+ops.length≤144115188075855872)
 (rec_:List UInt8) (henc:encode (zBy ops)=(rec_,0)) (hrec:(encAll (zBy ops)).length+64≤140737488355328) (hsz:rec_.length≤1048576) (hlg:(rec_.length:Int)≤largestI (logN n:Nat)) (hfit:used+(pcsJ rec_).length≤logN n) (hroom:(zBd (zAf r (zBy ops))).length≤234*layA n) :
 Ct Tryz.prog W 84 [.pointer (some ⟨s,0,none⟩),.slice oa ops.length oc] [A,stP s d q n (v:Nat) (some ⟨g,0,none⟩) D.life false,DiskP d D,tbP q a b,arP N,jouU g d n v used D.life]
  (fun _:TbQ N (zAf r (zBy ops))=>.nilIface)
  (fun x=>[A,stP s d q n (v:Nat) (some ⟨g,0,none⟩) D.life false,DiskP d (apGo (logAt n:Nat) v used (pcsJ rec_) 0 D).2.flushD,tbP q x.1.2.1 x.1.2.2,arP x.1.1,jouU g d n v (used+(pcsJ rec_).length) D.life]):=by
 obtain ⟨f1,f2,f3,f4⟩:=lay_fit h1 v
 have hA:=layA_le h2
 have hdn:downB D D.life false=false:=by unfold downB;rw [hD.calm.1];simp
 obtain ⟨p1,p2,p3,p4,p5,p6,p7,p8,p9,-⟩:=ap_rest hD (at_:=logAt n) (v:=v) (used:=used) (pcsJ_le rec_) (by omega)
 have hpl:=pcsJ_length rec_
 have cdn:=sup_ct (W:=W) (s:=s) (d:=d) (q:=q) (n:=n) (v:Nat) (some ⟨g,0,none⟩) D.life hdn
 have cno:=bnormal_ct (W:=W) A oa oc ops hL ho
 have hnl:(zBy ops).length≤ops.length:=nrm_len ops
 obtain ⟨os,hos⟩:∃ os,os=zBy ops:=⟨_,rfl⟩
 rw [← hos] at cno hnl hne henc hrec hroom ⊢
 have hown:∀ xa xc,Lv W opC 3 (lsP opC 49 3 (.slice xa os.length xc) os) xa os:=fun xa xc=>Lv.own zCa rfl
 have cen:=fun xa xc=>bencode_ct (W:=W) (F:=F) _ xa xc os (hown xa xc) hrec (by omega) (fun h=>by rw [henc] at h;cases h) (fun h=>by rw [henc] at h;cases h)
 rw [henc] at cen
 have clg:=slargest_ct (W:=W) (s:=s) (d:=d) (q:=q) (n:=n) (v:Nat) (some ⟨g,0,none⟩) D.life false h2
 have cro:=sroom_ct (W:=W) (s:=s) (d:=d) (q:=q) (n:=n) (v:Nat) (some ⟨g,0,none⟩) D.life false h2
 have caf:=fun xa xc=>safter_ct (W:=W) (s:=s) (d:=d) (q:=q) (n:=n) (b:=b) (v:Nat) (some ⟨g,0,none⟩) D.life false hT _ xa xc os (hown xa xc) (by omega) (by omega)
 have cfi:=fits_ct (W:=W) (p:=d) (g:=g) (logAt n:Nat) (logN n:Nat) (v:Nat) (used:Nat) D.life false rec_.length (by omega) ⟨by omega,by omega⟩ ⟨by omega,by omega⟩
 rw [show decide (0≤(rec_.length:Int)∧costI rec_.length≤(logN n:Nat)-(used:Nat))=true from decide_eq_true ⟨by omega,by omega⟩] at cfi
 have cap:=append_ct (W:=W) (p:=d) (g:=g) (D:=D) hE8 e17 hN (logAt n:Nat) (logN n:Nat) D.life v used rec_ (by omega) hdn ⟨by omega,by omega⟩ (by omega) hsz (by omega) ⟨by omega,by omega⟩ hv (by rw [hD.und];simp)
 rw [p1] at cap
 have hu2:(used:Int)+costI rec_.length=((used+(pcsJ rec_).length:Nat):Int):=by omega
 simp only [if_true,Bool.not_true,hu2] at cap
 have csy:=sync_ct (W:=W) (p:=d) (g:=g) (D:=(apGo (logAt n:Nat) v used (pcsJ rec_) 0 D).2) hE8 (logAt n:Nat) (logN n:Nat) (v:Nat) ((used+(pcsJ rec_).length:Nat):Int) D.life (by unfold downB;rw [p2,p3];simp) (by rw [p4];omega)
 rw [p6] at csy
 simp only [if_true] at csy
 obtain ⟨D1,hD1⟩:∃ D1,D1=(apGo (logAt n:Nat) v used (pcsJ rec_) 0 D).2:=⟨_,rfl⟩
 rw [← hD1] at cap csy ⊢
 obtain ⟨u2,hu2'⟩:∃ u,u=used+(pcsJ rec_).length:=⟨_,rfl⟩
 rw [← hu2'] at cap csy ⊢
 have cba:=fun (M:List Nd) (hM:∀ y ∈ N,y ∈ M) xa xc=>bapply_ct (W:=W) (p:=q) (tb:=b) (hT.mono hM) _ xa xc os (hown xa xc) (by omega)
 have q0:decide (((os.length:Nat):Int)=0)=false:=decide_eq_false (by
  have:=List.length_pos_iff.2 hne
  omega)
 have q1:decide (largestI (logN n:Nat)<(rec_.length:Nat))=false:=decide_eq_false (by omega)
 have q2:decide (((234*layA n:Nat):Int)<((zBd (zAf r os)).length:Nat))=false:=decide_eq_false (by omega)
 clear p1 p2 p3 p4 p5 p6 p7 p8 p9 hD1 hu2' hu2
 refine Ct.enter Tryz.func84 rfl Tryz.ntmps84 (by simp) (fun R=>?_)
 repeat' (first|(refine zAd ?_;first|(refine zAc xE (cba M hM _ _) xP rfl (fun y=>?_);obtain ⟨⟨M2,a2,b2⟩,gM,hT2⟩:=y;dsimp only at gM hT2 ⊢)|(refine zAc xE csy xP rfl (fun _=>?_))|(refine zAc xE cap xP rfl (fun _=>?_))|(refine zAc xE cfi xP rfl (fun _=>?_))|(refine zAc xE cro xP rfl (fun _=>?_))|(refine zAc xE (caf _ _) xP rfl (fun M=>?_);obtain ⟨M,hM⟩:=M;dsimp only at hM ⊢)|(refine zAc xE clg xP rfl (fun _=>?_))|(refine zAc xE (cen _ _) xP rfl (fun _=>?_))|(refine zAc xE cno xP rfl (fun x=>?_);obtain ⟨xa,xc⟩:=x)|(refine zAc xE cdn xP rfl (fun _=>?_)))|(refine zBg ?_;refine zAb (zAr rfl rfl q0) ?_)|(refine zBf ?_;first|refine zAb (zAk rfl rfl q2) ?_|refine zAb (zAk rfl rfl q1) ?_)|refine xst ?_|(refine xsa ?_;intro _)|(refine xsb ?_ ?_ <;>intro _<;>try (exfalso;omega))|refine xsc ?_|fail)
 all_goals (exact xdn ⟨(M2,a2,b2),fun y hy=>gM y (hM y hy),hT2⟩)
end
end Go.Proofs.YtgipenahkmbelaaGreatDoor
namespace Go.Proofs.YtgipenahkmbelaaGreatDoor
open Go Go.RowKit
section
variable {W:World} {M:List Nd} {F:Nat→Addr} {N:List Nd} {a:Option Addr} {r0 r:Rows} {K:List (List UInt8 × Bool)} {U:List UE} {q t s d n m g:Nat} {b:Int} {D:Dsk}
instance fn_txops:FnIs Tryz.prog 13:=⟨by kernel_rfl⟩
instance fn_txcommit:FnIs Tryz.prog 55:=⟨by kernel_rfl⟩
theorem txopsO_ct (y:TxH) (hT:TbOk y.N y.a r) (v:Int) (lg:Option Addr) (life:Int) (dead:Bool) (h0:TbOk N a r0) (hn:(K.map (·.1)).Nodup) (hK:∀ k,lk r k≠lk r0 k→k ∈ K.map (·.1)) (hl:K.length*40≤140737488355328) :
 Ct Tryz.prog W 13 [.pointer (some ⟨t,0,none⟩)] (txL t s y K U false++[stP s d q n v lg life dead,tbP q a b,arP N]) (fun x:Option Addr × Nat=>.slice x.1 (zAs r0 r).length x.2)
  (fun x=>txL t s y K U false++[stP s d q n v lg life dead,tbP q a b,arP N,lsP opC 49 3 (.slice x.1 (zAs r0 r).length x.2) (zAs r0 r)]):=by
 refine Ct.enter Tryz.func13 rfl Tryz.ntmps13 (by simp) (fun R=>?_)
 have hr:=TbOk.ris hT
 repeat' (first|(refine is_range ?_;refine KJ_rangeMap rfl xS rfl (fun it=>?_))|refine xst ?_|(refine xsa ?_;intro _)|(refine xsb ?_ ?_ <;>intro _<;>try (exfalso;omega))|refine xsc ?_|fail)
 refine KJ.nilrow 49 3 ?_
 refine zBv (fun x:{s:List BOp × List (List UInt8 × Bool) × Option (List UInt8 × Bool) × Option Addr × Nat//(s.1++(s.2.1.map (·.1)).filterMap (opOf r0 r)).Perm ((K.map (·.1)).filterMap (opOf r0 r))∧(s.2.1.map (·.1)).Nodup∧s.1.length+s.2.1.length≤K.length}=>[(0,.pointer (some ⟨t,0,none⟩)),(3,.slice x.1.2.2.2.1 x.1.1.length x.1.2.2.2.2),(17,.pointer (some ⟨it,0,none⟩))])
  (fun x=>[iterP strV Value.bool y.m it K x.1.2.1 x.1.2.2.1,lsP opC 49 3 (.slice x.1.2.2.2.1 x.1.1.length x.1.2.2.2.2) x.1.1,zAh t (txC s y U.length false) 86,tbP y.q y.a y.b,arP y.N,lsP ueC 1 1 (.slice y.ua U.length y.uc) U,undoP t U,stP s d q n v lg life dead,tbP q a b,arP N]++R)
  (fun x=>x.1.2.1.length) ⟨([],K,none,none,0),by simp,hn,by simp⟩ xB (xN) (fun ⟨(l,left,cur,a2,c2),hp,hd,hle⟩=>?_)
 dsimp only at hp hd hle ⊢
 have cN:=bnormal_ct (W:=W) (lsP opC 49 3 (.slice a2 l.length c2) l) a2 c2 l (Lv.own zCa rfl) (by omega)
 repeat' (first|(refine at_seq_region (id:=7) ?_;refine hold ?_)|(refine zAd ?_;refine zAc xE cN xP rfl (fun x=>?_);refine hold ?_)|(refine is_next ?_;refine KJ_nextMap (ty:=0) ky_key rfl xS rfl rfl (fun hz=>?_) (fun p hpm=>?_))|(refine ek_entry ?_;refine zAb (Ev_entry rfl xS) ?_)|refine xst ?_|(refine xsa ?_;intro _)|(refine xsb ?_ ?_ <;>intro _<;>try (exfalso;omega))|refine xsc ?_|fail)
 ·refine Hold.mk ?_
  subst hz
  rw [List.map_nil,List.filterMap_nil,List.append_nil] at hp
  have e:=ops_between (TbOk.ris h0) hr hK hp
  rw [e]
  refine KJ.iterDone xS ?_
  repeat' (first|refine xst ?_|(refine xsa ?_;intro _)|(refine xsb ?_ ?_ <;>intro _<;>try (exfalso;omega))|refine xsc ?_|fail)
  all_goals (exact xdn x)
 ·refine Hold.mk ?_
  have hpk:=perm_pickB hd hpm
  have hd2:((left.filter (fun q=>decide (q.1≠p.1))).map (·.1)).Nodup:=(List.filter_sublist.map _).nodup hd
  have hlen:=hpk.length_eq
  rw [List.length_cons] at hlen
  have hp2:((left.map (·.1)).filterMap (opOf r0 r)).Perm ((opOf r0 r p.1).toList++((left.filter (fun q=>decide (q.1≠p.1))).map (·.1)).filterMap (opOf r0 r)):=by
   have:=((hpk.map (·.1)).filterMap (opOf r0 r)).symm
   refine this.trans ?_
   rw [List.map_cons,List.filterMap_cons]
   cases opOf r0 r p.1 <;> exact List.Perm.refl _
  have nextN:opOf r0 r p.1=none→(l++((left.filter (fun q=>decide (q.1≠p.1))).map (·.1)).filterMap (opOf r0 r)).Perm ((K.map (·.1)).filterMap (opOf r0 r)):=fun h=>by
   rw [h] at hp2
   exact (List.Perm.append_left l hp2).symm.trans hp
  have nextS:∀ x,opOf r0 r p.1=some x→((l++[x])++((left.filter (fun q=>decide (q.1≠p.1))).map (·.1)).filterMap (opOf r0 r)).Perm ((K.map (·.1)).filterMap (opOf r0 r)):=fun x h=>by
   rw [h] at hp2
   rw [List.append_assoc]
   exact (List.Perm.append_left l hp2).symm.trans hp
  have b1:(l.length+1)*40≤140737488355328:=by omega
  have b2:l.length+1≤9223372036854775807:=by omega
  have hlt:(left.filter (fun q=>decide (q.1≠p.1))).length<left.length:=by omega
  obtain ⟨left',hleft⟩:∃ x,x=left.filter (fun q=>decide (q.1≠p.1)):=⟨_,rfl⟩
  rw [← hleft] at hd2 hlen nextN nextS hlt ⊢
  have c1:=sget_ct (W:=W) (s:=s) (d:=d) (q:=q) (n:=n) (b:=b) v lg life dead h0 p.1
  have c2':=tget_ct (W:=W) (p:=y.q) (b:=y.b) hT p.1
  obtain ⟨k,kb⟩:=p
  dsimp only at nextN nextS c1 c2' ⊢
  clear hpk hp2 hleft
  cases e1:lk r k with
  |none=>
   rw [e1] at c2'
   cases e0:lk r0 k with
   |none=>
    rw [e0] at c1
    have hx:opOf r0 r k=none:=by unfold opOf;rw [e1,e0];rfl
    repeat' (first|(refine zAd ?_;first|(refine zAc xE c2' xP rfl (fun _=>?_))|(refine zAc xE c1 xP rfl (fun _=>?_)))|(refine ek_entry ?_;refine zAb (Ev_entry rfl xS) ?_)|refine xst ?_|(refine xsa ?_;intro _)|(refine xsb ?_ ?_ <;>intro _<;>try (exfalso;omega))|refine xsc ?_|fail)
    all_goals refine zAv ⟨(l,left',some (k,kb),a2,c2),nextN hx,hd2,by dsimp only;omega⟩ hlt xB (xN)
   |some u=>
    rw [e0] at c1
    have hx:opOf r0 r k=some ⟨true,k,[]⟩:=by unfold opOf;rw [e1,e0];rfl
    repeat' (first|(refine zAd ?_;first|(refine zAc xE c2' xP rfl (fun _=>?_))|(refine zAc xE c1 xP rfl (fun _=>?_)))|(refine zBq ?_;refine zCe (l:=l) (a:=(⟨true,k,[]⟩:BOp)) zCa rfl rfl rfl xS xS b1 b2 rfl (fun g' c'=>?_))|(refine zBi ?_;refine zBt rfl xF (by rfl) (by omega) rfl (fun gb=>?_))|(refine zAy ?_;refine zAb (zAz xV xW) ?_)|(refine ek_entry ?_;refine zAb (Ev_entry rfl xS) ?_)|refine xst ?_|(refine xsa ?_;intro _)|(refine xsb ?_ ?_ <;>intro _<;>try (exfalso;omega))|refine xsc ?_|fail)
    all_goals refine zAv ⟨(l++[⟨true,k,[]⟩],left',some (k,kb),some ⟨g',0,none⟩,c'),nextS _ hx,hd2,by dsimp only;rw [List.length_append,List.length_singleton];omega⟩ hlt xB (xN)
  |some w=>
   rw [e1] at c2'
   cases e0:lk r0 k with
   |none=>
    rw [e0] at c1
    have hx:opOf r0 r k=some ⟨false,k,w⟩:=by unfold opOf;rw [e1,e0];rfl
    repeat' (first|(refine zAd ?_;first|(refine zAc xE c2' xP rfl (fun _=>?_))|(refine zAc xE c1 xP rfl (fun _=>?_)))|(refine zBq ?_;refine zCe (l:=l) (a:=(⟨false,k,w⟩:BOp)) zCa rfl rfl rfl xS xS b1 b2 rfl (fun g' c'=>?_))|(refine zBi ?_;refine zBt rfl xF (by rfl) (by omega) rfl (fun gb=>?_))|(refine zAy ?_;refine zAb (zAz xV xW) ?_)|(refine ek_entry ?_;refine zAb (Ev_entry rfl xS) ?_)|refine xst ?_|(refine xsa ?_;intro _)|(refine xsb ?_ ?_ <;>intro _<;>try (exfalso;omega))|refine xsc ?_|fail)
    all_goals refine zAv ⟨(l++[⟨false,k,w⟩],left',some (k,kb),some ⟨g',0,none⟩,c'),nextS _ hx,hd2,by dsimp only;rw [List.length_append,List.length_singleton];omega⟩ hlt xB (xN)
   |some u=>
    rw [e0] at c1
    by_cases huw:u=w
    ·have hx:opOf r0 r k=none:=by unfold opOf;rw [e1,e0,huw];exact if_pos rfl
     repeat' (first|(refine zAd ?_;first|(refine zAc xE c2' xP rfl (fun _=>?_))|(refine zAc xE c1 xP rfl (fun _=>?_)))|(refine ek_entry ?_;refine zAb (Ev_entry rfl xS) ?_)|(refine zBz ?_;refine zAb (Ev_neqS_f rfl rfl huw) ?_)|refine xst ?_|(refine xsa ?_;intro _)|(refine xsb ?_ ?_ <;>intro _<;>try (exfalso;omega))|refine xsc ?_|fail)
     all_goals refine zAv ⟨(l,left',some (k,kb),a2,c2),nextN hx,hd2,by dsimp only;omega⟩ hlt xB (xN)
    ·have hx:opOf r0 r k=some ⟨false,k,w⟩:=by unfold opOf;rw [e1,e0];exact if_neg (fun h=>huw (Option.some.inj h))
     repeat' (first|(refine zAd ?_;first|(refine zAc xE c2' xP rfl (fun _=>?_))|(refine zAc xE c1 xP rfl (fun _=>?_)))|(refine zBq ?_;refine zCe (l:=l) (a:=(⟨false,k,w⟩:BOp)) zCa rfl rfl rfl xS xS b1 b2 rfl (fun g' c'=>?_))|(refine zBi ?_;refine zBt rfl xF (by rfl) (by omega) rfl (fun gb=>?_))|(refine zAy ?_;refine zAb (zAz xV xW) ?_)|(refine ek_entry ?_;refine zAb (Ev_entry rfl xS) ?_)|(refine zBz ?_;refine zAb (Ev_neqS_t rfl rfl huw) ?_)|refine xst ?_|(refine xsa ?_;intro _)|(refine xsb ?_ ?_ <;>intro _<;>try (exfalso;omega))|refine xsc ?_|fail)
     all_goals refine zAv ⟨(l++[⟨false,k,w⟩],left',some (k,kb),some ⟨g',0,none⟩,c'),nextS _ hx,hd2,by dsimp only;rw [List.length_append,List.length_singleton];omega⟩ hlt xB (xN)
theorem txops_ct (v:Int) (lg:Option Addr) (life:Int) (dead:Bool) (h0:TbOk N a r0) (hn:(K.map (·.1)).Nodup) (hK:∀ k,lk r k≠lk r0 k→k ∈ K.map (·.1)) (hl:K.length*40≤140737488355328) :
 Ct Tryz.prog W 13 [.pointer (some ⟨t,0,none⟩)] [TxP M t s r K U false,stP s d q n v lg life dead,tbP q a b,arP N] (fun x:Option Addr × Nat=>.slice x.1 (zAs r0 r).length x.2)
  (fun x=>[TxP M t s r K U false,stP s d q n v lg life dead,tbP q a b,arP N,lsP opC 49 3 (.slice x.1 (zAs r0 r).length x.2) (zAs r0 r)]):=by
 refine zBm fun ⟨y,hT⟩=>?_
 exact (txopsO_ct (W:=W) y hT.1 v lg life dead h0 hn hK hl).to id (fun _=>rfl) (fun x R g q=>pack_star (F:=fun x:{x:TxH//TbOk x.N x.a r∧∀ y ∈ M,y ∈ x.N}=>txL t s x.1 K U false) ⟨y,hT⟩ g q)
end
end Go.Proofs.YtgipenahkmbelaaGreatDoor
namespace Go.Proofs.YtgipenahkmbelaaGreatDoor
open Go Go.RowKit
theorem mem_keys_lk {K:List (List UInt8 × Bool)} {k:List UInt8}:k ∈ K.map (·.1)↔(lk K k).isSome=true:=by
 constructor
 ·intro h
  obtain ⟨p,hp,e⟩:=List.mem_map.1 h
  cases hl:lk K k with
  |some v=>rfl
  |none=>exact absurd e (lk_none.1 hl p hp)
 ·intro h
  obtain ⟨v,hv⟩:=Option.isSome_iff_exists.1 h
  exact List.mem_map.2 ⟨_,lk_mem hv,rfl⟩
theorem mput_len (K:List (List UInt8 × Bool)) (k:List UInt8) (b:Bool):(mput K k b).length≤K.length+1:=by
 unfold mput
 split
 ·rw [List.length_map];omega
 ·rw [List.length_append];exact Nat.le_refl _
structure TxK (r0 r:Rows) (m:Nat) (K:List (List UInt8 × Bool)) (U:List UE):Prop where
 ul:U.length≤m
 kl:K.length≤m
 nd:(K.map (·.1)).Nodup
 all:∀ k,lk r k≠lk r0 k→k ∈ K.map (·.1)
theorem TxK.step {r0 r r':Rows} {m:Nat} {K:List (List UInt8 × Bool)} {U:List UE} (h:TxK r0 r m K U) (e:UE) (key:List UInt8) (hr:∀ k,k≠key→lk r' k=lk r k):TxK r0 r' (m+1) (mput K key true) (U++[e]):=
 ⟨by rw [List.length_append];exact Nat.succ_le_succ h.ul,Nat.le_trans (mput_len _ _ _) (Nat.succ_le_succ h.kl),mput_nodup h.nd _ _,fun k hk=>by
  rw [mem_keys_lk,lk_put]
  by_cases e:k=key
  ·rw [if_pos e];rfl
  ·rw [if_neg e]
   rw [hr k e] at hk
   exact mem_keys_lk.1 (h.all k hk)⟩
def TxS (t s:Nat) (r0 r:Rows) (m:Nat):SP:=packP 86 t (fun x:{x:List (List UInt8 × Bool) × List UE//TxK r0 r m x.1 x.2}=>[TxP [] t s r x.1.1 x.1.2 false])
theorem TxS.star {M:List Nd} {t s m:Nat} {r0 r:Rows} {K:List (List UInt8 × Bool)} {U:List UE} (h:TxK r0 r m K U) {R:List SP}:∀ g,zAj (TxP M t s r K U false::R) g→zAj (TxS t s r0 r m::R) g:=fun g q=>
 pack_star (F:=fun x:{x:List (List UInt8 × Bool) × List UE//TxK r0 r m x.1 x.2}=>[TxP [] t s r x.1.1 x.1.2 false]) ⟨(K,U),h⟩ g (TxP.weak (M':=[]) (fun _ h=>nomatch h) g q)
end Go.Proofs.YtgipenahkmbelaaGreatDoor
