/-
  StW8, TxW7.
-/
import Derived.Test.YtnkhohfbijkohaaGreatDoorTDP
import Derived.Test.YtnkhohfbijkohaaGreatDoorTDZ
import Derived.Test.YtnkhohfbijkohaaGreatDoorTEI
import Derived.Test.YtnkhohfbijkohaaGreatDoorTEE
set_option maxHeartbeats 64000000
namespace Go.Proofs.YtnkhohfbijkohaaGreatDoor
open Go Go.RowKit
abbrev plTEK0:Pl:=(.op 0 (.op 1 (.op 2 (.op 3 (.op 4 (.op 5 (.op 6 (.op 7 (.op 8 (.op 9 (.op 10 (.op 11 (.op 12 (.op 13 (.op 14 (.op 15 (.op 16 .nil)))))))))))))))))
abbrev jouU (g d:Nat) (n v used:Nat) (life:Int):SP:=zAq g [.pointer (some ⟨d,0,none⟩),.int .i64 (zAt n:Nat),.int .i64 (logN n:Nat),.int .i64 (v:Nat),.int .i64 (used:Nat),.int .i64 life,.bool false] 211
section
variable {W:World} {F:Nat→Addr} {N:List Nd} {a:Option Addr} {r:Rows} {q s d n g:Nat} {b:Int} {D:Dsk}
instance fn_sdown:FnIs Tryz.prog 61:=⟨by kernel_rfl⟩
instance fn_slargest:FnIs Tryz.prog 64:=⟨by kernel_rfl⟩
instance fn_safter:FnIs Tryz.prog 65:=⟨by kernel_rfl⟩
instance fn_sget:FnIs Tryz.prog 39:=⟨by kernel_rfl⟩
instance fn_clone:FnIs Tryz.prog 142:=⟨by kernel_rfl⟩
instance fn_scommit:FnIs Tryz.prog 25:=⟨by kernel_rfl⟩
theorem sup_ct (v:Int) (lg:Option Addr) (life:Int) (h:zCg D life false=false):Ct Tryz.prog W 61 [.pointer (some ⟨s,0,none⟩)] [stP s d q n v lg life false,DiskP d D] (fun _:Unit=>.bool false) (fun _=>[stP s d q n v lg life false,DiskP d D]):=by
 have ho:D.off=false:=by unfold zCg at h;cases hh:D.off <;> simp_all
 have hl:D.life=life:=by unfold zCg at h;rw [ho] at h;simpa using h
 have c1:Ct Tryz.prog W 44 [.pointer (some ⟨d,0,none⟩)] [DiskP d D] (fun _:Unit=>.bool false) (fun _=>[DiskP d D]):=by rw [← ho];exact off_ct
 have c2:Ct Tryz.prog W 115 [.pointer (some ⟨d,0,none⟩)] [DiskP d D] (fun _:Unit=>.int .i64 D.life) (fun _=>[DiskP d D]):=life_ct
 refine Ct.enter Tryz.func61 rfl Tryz.ntmps61 (by simp) (fun R=>?_)
 repeat' (first|(refine zBh ?_;refine zAc (zCb rfl rfl hl) ?_)|(refine is_fo ?_;(refine zCa (X:=Unit) xE c1 xP rfl ?_))|(refine is_ro ?_;(refine zCa (X:=Unit) xE c1 xP rfl ?_))|(refine is_fo ?_;(refine zBs (X:=Unit) rfl rfl xE c1 xP rfl ?_))|(refine is_ro ?_;(refine zBs (X:=Unit) rfl rfl xE c1 xP rfl ?_))|(refine is_fo ?_;(refine zCa (X:=Unit) xE c2 xP rfl ?_))|(refine is_ro ?_;(refine zCa (X:=Unit) xE c2 xP rfl ?_))|(refine is_fo ?_;(refine zBs (X:=Unit) rfl rfl xE c2 xP rfl ?_))|(refine is_ro ?_;(refine zBs (X:=Unit) rfl rfl xE c2 xP rfl ?_))|refine xst ?_|(refine xsa ?_;intro _)|(refine xsb ?_ ?_ <;>intro _<;>try (exfalso;omega))|refine xsc ?_|(refine zAb (id:=1) plTEK0 (by kernel_rfl) (by kernel_rfl) ?_)|refine zAn ?_ ?_|refine zAm rfl rfl rfl rfl rfl ?_ ?_|refine zAf ?_ ?_|exact Rech.nil|fail)
 all_goals (exact xdn ())
theorem slargest_ct (v:Int) (lg:Option Addr) (life:Int) (dead:Bool) (h2:n≤65536):Ct Tryz.prog W 64 [.pointer (some ⟨s,0,none⟩)] [stP s d q n v lg life dead] (fun _:Unit=>.int .i64 (zBi (logN n:Nat))) (fun _=>[stP s d q n v lg life dead]):=by
 have c1:=largest_ct (W:=W) (logN n:Nat) (by unfold logN;omega)
 refine Ct.enter Tryz.func64 rfl Tryz.ntmps64 (by simp) (fun R=>?_)
 repeat' (first|(refine zAd ?_;refine zAa xE c1 xP rfl (fun _=>?_))|refine xst ?_|(refine xsa ?_;intro _)|(refine xsb ?_ ?_ <;>intro _<;>try (exfalso;omega))|refine xsc ?_|fail)
 all_goals (exact xdn ())
theorem sget_ct (v:Int) (lg:Option Addr) (life:Int) (dead:Bool) (hT:TbOk N a r) (key:List UInt8):Ct Tryz.prog W 39 [.pointer (some ⟨s,0,none⟩),strV key] [stP s d q n v lg life dead,tbP q a b,arP N] (fun _:Unit=>.tuple #[strV ((lk r key).getD []),.bool (lk r key).isSome]) (fun _=>[stP s d q n v lg life dead,tbP q a b,arP N]):=by
 have cg:=tget_ct (W:=W) (p:=q) (b:=b) hT key
 refine Ct.enter Tryz.func39 rfl Tryz.ntmps39 (by simp) (fun R=>?_)
 repeat' (first|(refine zAd ?_;refine zAa xE cg xP rfl (fun _=>?_))|refine xst ?_|(refine xsa ?_;intro _)|(refine xsb ?_ ?_ <;>intro _<;>try (exfalso;omega))|refine xsc ?_|fail)
 all_goals (exact xdn ())
theorem tclone_ct:Ct Tryz.prog W 142 [.pointer (some ⟨q,0,none⟩)] [tbP q a b] (fun x:Nat=>.pointer (some ⟨x,0,none⟩)) (fun x=>[tbP q a b,tbP x a b]):=by
 refine Ct.enter Tryz.func142 rfl Tryz.ntmps142 (by simp) (fun R=>?_)
 repeat' (first|(refine zBf ?_;refine zBb rfl (fun g=>?_))|refine xst ?_|(refine xsa ?_;intro _)|(refine xsb ?_ ?_ <;>intro _<;>try (exfalso;omega))|refine xsc ?_|fail)
 all_goals (exact xdn g)
theorem safter_ct (v:Int) (lg:Option Addr) (life:Int) (dead:Bool) (hT:TbOk N a r) (A:SP) (oa:Option Addr) (oc:Nat) (ops:List BOp) (hL:Lv W opC 3 A oa ops) (hl:r.length+ops.length≤144115188075855872) (hs:(zAj (zAu r ops)).length≤4611686018427387904) :
 Ct Tryz.prog W 65 [.pointer (some ⟨s,0,none⟩),.slice oa ops.length oc] [A,stP s d q n v lg life dead,tbP q a b,arP N] (fun _:{M:List Nd//∀ y ∈ N,y ∈ M}=>.int .i64 ((zAj (zAu r ops)).length:Nat)) (fun M=>[A,stP s d q n v lg life dead,tbP q a b,arP M.1]):=by
 have cc:=tclone_ct (W:=W) (q:=q) (a:=a) (b:=b)
 have ca:=fun x=>bapply_ct (W:=W) (p:=x) (tb:=b) hT A oa oc ops hL hl
 have cz:=fun (x:Nat) (M:List Nd) (a':Option Addr) (b':Int) (h:TbOk M a' (zAu r ops))=>ssize_ct (W:=W) (p:=x) (b:=b') h hs
 refine Ct.enter Tryz.func65 rfl Tryz.ntmps65 (by simp) (fun R=>?_)
 repeat' (first|(refine zAd ?_;first|(refine zAa xE (cz _ _ _ _ hT') xP rfl (fun _=>?_))|(refine zAa xE (ca _) xP rfl (fun y=>?_);obtain ⟨⟨M,a',b'⟩,gM,hT'⟩:=y;dsimp only at gM hT' ⊢)|(refine zAa xE cc xP rfl (fun x=>?_)))|refine xst ?_|(refine xsa ?_;intro _)|(refine xsb ?_ ?_ <;>intro _<;>try (exfalso;omega))|refine xsc ?_|fail)
 all_goals (exact xdn ⟨M,gM⟩)
set_option maxRecDepth 100000 in
theorem scommit_ct (hE8:ErrsOn L8 W F) (e17:W.cell? ⟨4,0,none⟩=some (errV F 17)) (hN:NibAt W) (h1:64≤n) (h2:n≤65536) (v used:Nat) (hv:1≤v∧v≤1099511627776) (hD:Rest D) (hn:D.n=n)
 (hT:TbOk N a r) (A:SP) (oa:Option Addr) (oc:Nat) (ops:List BOp) (hL:Lv W opC 3 A oa ops) (ho:ops.length*40≤140737488355328) (hne:zAr ops≠[]) (hl:r.length+ops.length≤144115188075855872)
 (rec_:List UInt8) (henc:encode (zAr ops)=(rec_,0)) (hrec:(zAx (zAr ops)).length+64≤140737488355328) (hsz:rec_.length≤1048576) (hlg:(rec_.length:Int)≤zBi (logN n:Nat)) (hfit:used+(pcsJ rec_).length≤logN n) (hroom:(zAj (zAu r (zAr ops))).length≤234*layA n) :
 Ct Tryz.prog W 25 [.pointer (some ⟨s,0,none⟩),.slice oa ops.length oc] [A,stP s d q n (v:Nat) (some ⟨g,0,none⟩) D.life false,DiskP d D,tbP q a b,arP N,jouU g d n v used D.life]
  (fun _:TbQ N (zAu r (zAr ops))=>.nilIface)
  (fun x=>[A,stP s d q n (v:Nat) (some ⟨g,0,none⟩) D.life false,DiskP d (apGo (zAt n:Nat) v used (pcsJ rec_) 0 D).2.flushD,tbP q x.1.2.1 x.1.2.2,arP x.1.1,jouU g d n v (used+(pcsJ rec_).length) D.life]):=by
 obtain ⟨f1,f2,f3,f4⟩:=zBn h1 v
 have hA:=layA_le h2
 have hdn:zCg D D.life false=false:=by unfold zCg;rw [hD.calm.1];simp
 obtain ⟨p1,p2,p3,p4,p5,p6,p7,p8,p9,-⟩:=ap_rest hD (at_:=zAt n) (v:=v) (used:=used) (pcsJ_le rec_) (by omega)
 have hpl:=pcsJ_length rec_
 have cdn:=sup_ct (W:=W) (s:=s) (d:=d) (q:=q) (n:=n) (v:Nat) (some ⟨g,0,none⟩) D.life hdn
 have cno:=bnormal_ct (W:=W) A oa oc ops hL ho
 have hnl:(zAr ops).length≤ops.length:=nrm_len ops
 obtain ⟨os,hos⟩:∃ os,os=zAr ops:=⟨_,rfl⟩
 rw [← hos] at cno hnl hne henc hrec hroom ⊢
 have hown:∀ xa xc,Lv W opC 3 (lsP opC 73 3 (.slice xa os.length xc) os) xa os:=fun xa xc=>Lv.own enc_op rfl
 have cen:=fun xa xc=>bencode_ct (W:=W) (F:=F) _ xa xc os (hown xa xc) hrec (by omega) (fun h=>by rw [henc] at h;cases h) (fun h=>by rw [henc] at h;cases h)
 rw [henc] at cen
 have clg:=slargest_ct (W:=W) (s:=s) (d:=d) (q:=q) (n:=n) (v:Nat) (some ⟨g,0,none⟩) D.life false h2
 have cro:=sroom_ct (W:=W) (s:=s) (d:=d) (q:=q) (n:=n) (v:Nat) (some ⟨g,0,none⟩) D.life false h2
 have caf:=fun xa xc=>safter_ct (W:=W) (s:=s) (d:=d) (q:=q) (n:=n) (b:=b) (v:Nat) (some ⟨g,0,none⟩) D.life false hT _ xa xc os (hown xa xc) (by omega) (by omega)
 have cfi:=fits_ct (W:=W) (p:=d) (g:=g) (zAt n:Nat) (logN n:Nat) (v:Nat) (used:Nat) D.life false rec_.length (by omega) ⟨by omega,by omega⟩ ⟨by omega,by omega⟩
 rw [show decide (0≤(rec_.length:Int)∧costI rec_.length≤(logN n:Nat)-(used:Nat))=true from decide_eq_true ⟨by omega,by omega⟩] at cfi
 have cap:=append_ct (W:=W) (p:=d) (g:=g) (D:=D) hE8 e17 hN (zAt n:Nat) (logN n:Nat) D.life v used rec_ (by omega) hdn ⟨by omega,by omega⟩ (by omega) hsz (by omega) ⟨by omega,by omega⟩ hv (by rw [hD.und];simp)
 rw [p1] at cap
 have hu2:(used:Int)+costI rec_.length=((used+(pcsJ rec_).length:Nat):Int):=by omega
 simp only [if_true,Bool.not_true,hu2] at cap
 have csy:=sync_ct (W:=W) (p:=d) (g:=g) (D:=(apGo (zAt n:Nat) v used (pcsJ rec_) 0 D).2) hE8 (zAt n:Nat) (logN n:Nat) (v:Nat) ((used+(pcsJ rec_).length:Nat):Int) D.life (by unfold zCg;rw [p2,p3];simp) (by rw [p4];omega)
 rw [p6] at csy
 simp only [if_true] at csy
 obtain ⟨D1,hD1⟩:∃ D1,D1=(apGo (zAt n:Nat) v used (pcsJ rec_) 0 D).2:=⟨_,rfl⟩
 rw [← hD1] at cap csy ⊢
 obtain ⟨u2,hu2'⟩:∃ u,u=used+(pcsJ rec_).length:=⟨_,rfl⟩
 rw [← hu2'] at cap csy ⊢
 have cba:=fun (M:List Nd) (hM:∀ y ∈ N,y ∈ M) xa xc=>bapply_ct (W:=W) (p:=q) (tb:=b) (hT.mono hM) _ xa xc os (hown xa xc) (by omega)
 have q0:decide (((os.length:Nat):Int)=0)=false:=decide_eq_false (by
  have:=List.length_pos_iff.2 hne
  omega)
 have q1:decide (zBi (logN n:Nat)<(rec_.length:Nat))=false:=decide_eq_false (by omega)
 have q2:decide (((234*layA n:Nat):Int)<((zAj (zAu r os)).length:Nat))=false:=decide_eq_false (by omega)
 clear p1 p2 p3 p4 p5 p6 p7 p8 p9 hD1 hu2' hu2
 refine Ct.enter Tryz.func25 rfl Tryz.ntmps25 (by simp) (fun R=>?_)
 repeat' (first|(refine zAd ?_;first|(refine zAa xE (cba M hM _ _) xP rfl (fun y=>?_);obtain ⟨⟨M2,a2,b2⟩,gM,hT2⟩:=y;dsimp only at gM hT2 ⊢)|(refine zAa xE csy xP rfl (fun _=>?_))|(refine zAa xE cap xP rfl (fun _=>?_))|(refine zAa xE cfi xP rfl (fun _=>?_))|(refine zAa xE cro xP rfl (fun _=>?_))|(refine zAa xE (caf _ _) xP rfl (fun M=>?_);obtain ⟨M,hM⟩:=M;dsimp only at hM ⊢)|(refine zAa xE clg xP rfl (fun _=>?_))|(refine zAa xE (cen _ _) xP rfl (fun _=>?_))|(refine zAa xE cno xP rfl (fun x=>?_);obtain ⟨xa,xc⟩:=x)|(refine zAa xE cdn xP rfl (fun _=>?_)))|(refine zBe ?_;refine zAc (zAk rfl rfl q0) ?_)|(refine zBa ?_;first|refine zAc (zAg rfl rfl q2) ?_|refine zAc (zAg rfl rfl q1) ?_)|refine xst ?_|(refine xsa ?_;intro _)|(refine xsb ?_ ?_ <;>intro _<;>try (exfalso;omega))|refine xsc ?_|fail)
 all_goals (exact xdn ⟨(M2,a2,b2),fun y hy=>gM y (hM y hy),hT2⟩)
end
end Go.Proofs.YtnkhohfbijkohaaGreatDoor
namespace Go.Proofs.YtnkhohfbijkohaaGreatDoor
open Go Go.RowKit
theorem mem_keys_lk {K:List (List UInt8 × Bool)} {k:List UInt8}:k ∈ K.map (·.1)↔(lk K k).isSome=true:=by
 constructor
 ·intro h
  obtain ⟨p,hp,e⟩:=List.mem_map.1 h
  cases hl:lk K k with
  |some v=>rfl
  |none=>exact absurd e (lk_none.1 hl p hp)
 ·intro h
  obtain ⟨v,hv⟩:=Option.isSome_iff_exists.1 h
  exact List.mem_map.2 ⟨_,lk_mem hv,rfl⟩
theorem mput_len (K:List (List UInt8 × Bool)) (k:List UInt8) (b:Bool):(mput K k b).length≤K.length+1:=by
 unfold mput
 split
 ·rw [List.length_map];omega
 ·rw [List.length_append];exact Nat.le_refl _
structure TxK (r0 r:Rows) (m:Nat) (K:List (List UInt8 × Bool)) (U:List UE):Prop where
 ul:U.length≤m
 kl:K.length≤m
 nd:(K.map (·.1)).Nodup
 all:∀ k,lk r k≠lk r0 k→k ∈ K.map (·.1)
theorem TxK.step {r0 r r':Rows} {m:Nat} {K:List (List UInt8 × Bool)} {U:List UE} (h:TxK r0 r m K U) (e:UE) (key:List UInt8) (hr:∀ k,k≠key→lk r' k=lk r k):TxK r0 r' (m+1) (mput K key true) (U++[e]):=
 ⟨by rw [List.length_append];exact Nat.succ_le_succ h.ul,Nat.le_trans (mput_len _ _ _) (Nat.succ_le_succ h.kl),mput_nodup h.nd _ _,fun k hk=>by
  rw [mem_keys_lk,lk_put]
  by_cases e:k=key
  ·rw [if_pos e];rfl
  ·rw [if_neg e]
   rw [hr k e] at hk
   exact mem_keys_lk.1 (h.all k hk)⟩
def TxS (t s:Nat) (r0 r:Rows) (m:Nat):SP:=packP 86 t (fun x:{x:List (List UInt8 × Bool) × List UE//TxK r0 r m x.1 x.2}=>[TxP t s r x.1.1 x.1.2 false])
theorem TxS.star {t s m:Nat} {r0 r:Rows} {K:List (List UInt8 × Bool)} {U:List UE} (h:TxK r0 r m K U) {R:List SP}:∀ g,zBg (TxP t s r K U false::R) g→zBg (TxS t s r0 r m::R) g:=fun g q=>
 pack_star (F:=fun x:{x:List (List UInt8 × Bool) × List UE//TxK r0 r m x.1 x.2}=>[TxP t s r x.1.1 x.1.2 false]) ⟨(K,U),h⟩ g q
end Go.Proofs.YtnkhohfbijkohaaGreatDoor
