/-
  StW8, TxW7, StWB, StWC.
-/
import Derived.Test.YtlnbkbfblhofbaaGreatDoorVEV
import Derived.Test.YtlnbkbfblhofbaaGreatDoorVER
set_option maxRecDepth 100000
set_option maxHeartbeats 64000000
namespace Go.Proofs.YtlnbkbfblhofbaaGreatDoor
open Go Go.RowKit
open Go.Proofs.Tryz
abbrev yZu:Pl:=(.op 0 (.op 1 (.op 2 (.op 3 (.op 4 (.op 5 (.op 6 (.op 7 (.op 8 (.op 9 (.op 10 (.op 11 (.op 12 (.op 13 (.op 14 (.op 15 (.op 16 .nil)))))))))))))))))
abbrev yZ5 (g d:Nat) (n v used:Nat) (life:Int):SP:=yAi g [zPp d,.int .i64 (yAK n:Nat),.int .i64 (yA2 n:Nat),.int .i64 (v:Nat),.int .i64 (used:Nat),.int .i64 life,.bool false] 164
section
variable {W:World} {F:Nat→Addr} {N:List Nd} {a:Option Addr} {r:Rows} {q s d n g:Nat} {b:Int} {D:Dsk}
instance yZ6:FnIs prog 43:=⟨zK⟩
instance yXY:FnIs prog 46:=⟨zK⟩
instance yZv:FnIs prog 47:=⟨zK⟩
instance xAE:FnIs prog 21:=⟨zK⟩
instance yZ7:FnIs prog 99:=⟨zK⟩
instance yYB:FnIs prog 20:=⟨zK⟩
theorem yTe (v:Int) (lg:Option Addr) (life:Int) (h:yDW D life false=false):CtU prog W 43 [zPp s] [stP s d q n v lg life false,DiskP d D] (.bool false) [stP s d q n v lg life false,DiskP d D]:=by
 have ho:D.off=false:=by unfold yDW at h;cases hh:D.off <;> simp_all
 have hl:D.life=life:=by unfold yDW at h;rw [ho] at h;simpa using h
 have c1:CtU prog W 26 [zPp d] [DiskP d D] (.bool false) [DiskP d D]:=by rw [← ho];exact yD5
 have c2:CtU prog W 61 [zPp d] [DiskP d D] (.int .i64 D.life) [DiskP d D]:=yK6
 refine Ct.enter func43 rfl ntmps43 zW (fun R=>?_)
 repeat' (first|refine yAa (yAv rfl rfl hl) ?_|refine yBP ?_;(refine yA5 (X:=Unit) xE c1 xP rfl ?_)|refine yBP ?_;(refine yCD (X:=Unit) rfl rfl xE c1 xP rfl ?_)|refine yBP ?_;(refine yA5 (X:=Unit) xE c2 xP rfl ?_)|refine yBP ?_;(refine yCD (X:=Unit) rfl rfl xE c2 xP rfl ?_)|refine xst ?_|refine xsa ?_;intro _|refine xsb ?_ ?_<;>intro _<;>try omega|refine xsc ?_|refine xdr 1 yZu ?_|refine xsd ?_ ?_|exact Rech.nil|exact xdn ()|fail)
theorem yGt (v:Int) (lg:Option Addr) (life:Int) (dead:Bool) (h2:n≤65536):CtU prog W 46 [zPp s] [stP s d q n v lg life dead] (.int .i64 (yBw (yA2 n:Nat))) [stP s d q n v lg life dead]:=by
 have c1:=yQs (W:=W) (yA2 n:Nat) (by unfold yA2;omega)
 refine Ct.enter func46 rfl ntmps46 zW (fun R=>?_)
 repeat' (first|refine yAb ?_;refine xca c1 fun _=>?_|refine xst ?_|refine xsa ?_;intro _|refine xsb ?_ ?_<;>intro _<;>try omega|refine xsc ?_|exact xdn ()|fail)
theorem yXZ (v:Int) (lg:Option Addr) (life:Int) (dead:Bool) (hT:TbOk N a r) (key:List UInt8):CtU prog W 21 [zPp s,strV key] [stP s d q n v lg life dead,tbP q a b,arP N] (.tuple #[strV ((lk r key).getD []),.bool (lk r key).isSome]) [stP s d q n v lg life dead,tbP q a b,arP N]:=by
 have cg:=yXN (W:=W) (p:=q) (b:=b) hT key
 refine Ct.enter func21 rfl ntmps21 zW (fun R=>?_)
 repeat' (first|refine yAb ?_;refine xca cg fun _=>?_|refine xst ?_|refine xsa ?_;intro _|refine xsb ?_ ?_<;>intro _<;>try omega|refine xsc ?_|exact xdn ()|fail)
theorem yTf:Ct prog W 99 [zPp q] [tbP q a b] (fun x:Nat=>(zPp x)) (fun x=>[tbP q a b,tbP x a b]):=by
 refine Ct.enter func99 rfl ntmps99 zW (fun R=>?_)
 repeat' (first|refine yAs ?_;refine yAq rfl (fun g=>?_)|refine xst ?_|refine xsa ?_;intro _|refine xsb ?_ ?_<;>intro _<;>try omega|refine xsc ?_|fail)
 all_goals (exact xdn g)
theorem yJz (v:Int) (lg:Option Addr) (life:Int) (dead:Bool) (hT:TbOk N a r) (A:SP) (oa:Option Addr) (oc:Nat) (ops:List BOp) (hL:Lv W opC 3 A oa ops) (hl:r.length+ops.length≤144115188075855872) (hs:(yAh (yAJ r ops)).length≤4611686018427387904) :
 Ct prog W 47 [zPp s,.slice oa ops.length oc] [A,stP s d q n v lg life dead,tbP q a b,arP N] (fun _:{M:List Nd//∀ y ∈ N,y ∈ M}=>.int .i64 ((yAh (yAJ r ops)).length:Nat)) (fun M=>[A,stP s d q n v lg life dead,tbP q a b,arP M.1]):=by
 have cc:=yTf (W:=W) (q:=q) (a:=a) (b:=b)
 have ca:=fun x=>yCY (W:=W) (p:=x) (tb:=b) hT A oa oc ops hL hl
 have cz:=fun (x:Nat) (M:List Nd) (a':Option Addr) (b':Int) (h:TbOk M a' (yAJ r ops))=>yEd (W:=W) (p:=x) (b:=b') h hs
 refine Ct.enter func47 rfl ntmps47 zW (fun R=>?_)
 repeat' (first|(refine yAb ?_;first|refine xca (cz _ _ _ _ hT') fun _=>?_|refine xca (ca _) fun y=>?_;obtain ⟨⟨M,a',b'⟩,gM,hT'⟩:=y;dsimp only at gM hT' ⊢|refine xca cc fun x=>?_)|refine xst ?_|refine xsa ?_;intro _|refine xsb ?_ ?_<;>intro _<;>try omega|refine xsc ?_|fail)
 all_goals (exact xdn ⟨M,gM⟩)
theorem yQH (hE8:ErrsOn L8 W F) (e17:W.cell? ⟨4,0,none⟩=some (yAr F 17)) (hN:NibAt W) (h1:64≤n) (h2:n≤65536) (v used:Nat) (hv:1≤v∧v≤1099511627776) (hD:Rest D) (hn:D.n=n)
 (hT:TbOk N a r) (A:SP) (oa:Option Addr) (oc:Nat) (ops:List BOp) (hL:Lv W opC 3 A oa ops) (ho:ops.length*40≤140737488355328) (hne:yA1 ops≠[]) (hl:r.length+ops.length≤144115188075855872)
 (rec_:List UInt8) (henc:yEw (yA1 ops)=(rec_,0)) (hrec:(yBN (yA1 ops)).length+64≤140737488355328) (hsz:rec_.length≤1048576) (hlg:(rec_.length:Int)≤yBw (yA2 n:Nat)) (hfit:used+(yCK rec_).length≤yA2 n) (hroom:(yAh (yAJ r (yA1 ops))).length≤234*yAu n) :
 Ct prog W 20 [zPp s,.slice oa ops.length oc] [A,stP s d q n (v:Nat) (some ⟨g,0,none⟩) D.life false,DiskP d D,tbP q a b,arP N,yZ5 g d n v used D.life]
  (fun _:TbQ N (yAJ r (yA1 ops))=>.nilIface)
  (fun x=>[A,stP s d q n (v:Nat) (some ⟨g,0,none⟩) D.life false,DiskP d (yEi (yAK n:Nat) v used (yCK rec_) 0 D).2.flushD,tbP q x.1.2.1 x.1.2.2,arP x.1.1,yZ5 g d n v (used+(yCK rec_).length) D.life]):=by
 obtain ⟨f1,f2,f3,f4⟩:=yAO h1 v
 have hA:=yA8 h2
 have hdn:yDW D D.life false=false:=by unfold yDW;rw [hD.calm.1];simp
 obtain ⟨p1,p2,p3,p4,p5,p6,p7,p8,p9,-⟩:=yOn hD (at_:=yAK n) (v:=v) (used:=used) (yLw rec_) zO
 have hpl:=yCL rec_
 have cdn:=yTe (W:=W) (s:=s) (d:=d) (q:=q) (n:=n) (v:Nat) (some ⟨g,0,none⟩) D.life hdn
 have cno:=yHS (W:=W) A oa oc ops hL ho
 have hnl:(yA1 ops).length≤ops.length:=yOm ops
 obtain ⟨os,hos⟩:∃ os,os=yA1 ops:=⟨_,rfl⟩
 rw [← hos] at cno hnl hne henc hrec hroom ⊢
 have hown:∀ xa xc,Lv W opC 3 (lsP opC 60 3 (.slice xa os.length xc) os) xa os:=fun xa xc=>Lv.own yBy rfl
 have cen:=fun xa xc=>yHR (W:=W) (F:=F) _ xa xc os (hown xa xc) hrec zO (fun h=>by rw [henc] at h;cases h) (fun h=>by rw [henc] at h;cases h)
 rw [henc] at cen
 have clg:=yGt (W:=W) (s:=s) (d:=d) (q:=q) (n:=n) (v:Nat) (some ⟨g,0,none⟩) D.life false h2
 have cro:=yCr (W:=W) (s:=s) (d:=d) (q:=q) (n:=n) (v:Nat) (some ⟨g,0,none⟩) D.life false h2
 have caf:=fun xa xc=>yJz (W:=W) (s:=s) (d:=d) (q:=q) (n:=n) (b:=b) (v:Nat) (some ⟨g,0,none⟩) D.life false hT _ xa xc os (hown xa xc) zO zO
 have cfi:=yOb (W:=W) (p:=d) (g:=g) (yAK n:Nat) (yA2 n:Nat) (v:Nat) (used:Nat) D.life false rec_.length zO ⟨zO,zO⟩ ⟨zO,zO⟩
 rw [show decide (0≤(rec_.length:Int)∧yBQ rec_.length≤(yA2 n:Nat)-(used:Nat))=true from zY ⟨zO,zO⟩] at cfi
 have cap:=yML (W:=W) (p:=d) (g:=g) (D:=D) hE8 e17 hN (yAK n:Nat) (yA2 n:Nat) D.life v used rec_ zO hdn ⟨zO,zO⟩ zO hsz zO ⟨zO,zO⟩ hv (by rw [hD.und];simp)
 rw [p1] at cap
 have hu2:(used:Int)+yBQ rec_.length=((used+(yCK rec_).length:Nat):Int):=zO
 simp only [if_true,Bool.not_true,hu2] at cap
 have csy:=yS8 (W:=W) (p:=d) (g:=g) (D:=(yEi (yAK n:Nat) v used (yCK rec_) 0 D).2) hE8 (yAK n:Nat) (yA2 n:Nat) (v:Nat) ((used+(yCK rec_).length:Nat):Int) D.life (by unfold yDW;rw [p2,p3];simp) (by rw [p4];omega)
 rw [p6] at csy
 simp only [if_true] at csy
 obtain ⟨D1,hD1⟩:∃ D1,D1=(yEi (yAK n:Nat) v used (yCK rec_) 0 D).2:=⟨_,rfl⟩
 rw [← hD1] at cap csy ⊢
 obtain ⟨u2,hu2'⟩:∃ u,u=used+(yCK rec_).length:=⟨_,rfl⟩
 rw [← hu2'] at cap csy ⊢
 have cba:=fun (M:List Nd) (hM:∀ y ∈ N,y ∈ M) xa xc=>yCY (W:=W) (p:=q) (tb:=b) (hT.mono hM) _ xa xc os (hown xa xc) zO
 have q0:decide (((os.length:Nat):Int)=0)=false:=zZ (by
  have:=zLv.2 hne
  omega)
 have q1:decide (yBw (yA2 n:Nat)<(rec_.length:Nat))=false:=zZ zO
 have q2:decide (((234*yAu n:Nat):Int)<((yAh (yAJ r os)).length:Nat))=false:=zZ zO
 clear p1 p2 p3 p4 p5 p6 p7 p8 p9 hD1 hu2' hu2
 refine Ct.enter func20 rfl ntmps20 zW (fun R=>?_)
 repeat' (first|(refine yAb ?_;first|refine xca (cba M hM _ _) fun y=>?_;obtain ⟨⟨M2,a2,b2⟩,gM,hT2⟩:=y;dsimp only at gM hT2 ⊢|refine xca csy fun _=>?_|refine xca cap fun _=>?_|refine xca cfi fun _=>?_|refine xca cro fun _=>?_|refine xca (caf _ _) fun M=>?_;obtain ⟨M,hM⟩:=M;dsimp only at hM ⊢|refine xca clg fun _=>?_|refine xca (cen _ _) fun _=>?_|refine xca cno fun x=>?_;obtain ⟨xa,xc⟩:=x|refine xca cdn fun _=>?_)|refine yAa (yAf rfl rfl q0) ?_|refine yAa (yAe rfl rfl q2) ?_|refine yAa (yAe rfl rfl q1) ?_|refine xst ?_|refine xsa ?_;intro _|refine xsb ?_ ?_<;>intro _<;>try omega|refine xsc ?_|fail)
 all_goals (exact xdn ⟨(M2,a2,b2),fun y hy=>gM y (hM y hy),hT2⟩)
end
theorem mem_keys_lk {K:List (List UInt8 × Bool)} {k:List UInt8}:k ∈ K.map (·.1)↔(lk K k).isSome=true:=by
 constructor
 ·intro h
  obtain ⟨p,hp,e⟩:=List.mem_map.1 h
  cases hl:lk K k with
  |some v=>rfl
  |none=>exact absurd e (lk_none.1 hl p hp)
 ·intro h
  obtain ⟨v,hv⟩:=Option.isSome_iff_exists.1 h
  exact List.mem_map.2 ⟨_,yMl hv,rfl⟩
theorem yPu (K:List (List UInt8 × Bool)) (k:List UInt8) (b:Bool):(yL0 K k b).length≤K.length+1:=by
 unfold yL0
 split
 ·rw [zLD];omega
 ·rw [zLa];exact Nat.le_refl _
structure TxK (r0 r:Rows) (m:Nat) (K:List (List UInt8 × Bool)) (U:List UE):Prop where
 ul:U.length≤m
 kl:K.length≤m
 nd:(K.map (·.1)).Nodup
 all:∀ k,lk r k≠lk r0 k→k ∈ K.map (·.1)
theorem TxK.step {r0 r r':Rows} {m:Nat} {K:List (List UInt8 × Bool)} {U:List UE} (h:TxK r0 r m K U) (e:UE) (key:List UInt8) (hr:∀ k,k≠key→lk r' k=lk r k):TxK r0 r' (m+1) (yL0 K key true) (U++[e]):=
 ⟨by rw [zLa];exact Nat.succ_le_succ h.ul,Nat.le_trans (yPu _ _ _) (Nat.succ_le_succ h.kl),yHB h.nd _ _,fun k hk=>by
  rw [mem_keys_lk,yR7]
  by_cases e:k=key
  ·rw [if_pos e];rfl
  ·rw [if_neg e]
   rw [hr k e] at hk
   exact mem_keys_lk.1 (h.all k hk)⟩
structure StH where
 d:Nat
 q:Nat
 g:Nat
 v:Nat
 used:Nat
 D:Dsk
 N:List Nd
 a:Option Addr
 b:Int
structure StI (n m:Nat) (r:Rows) (x:StH):Prop where
 rdy:RdyS n x.v x.D
 v1:1≤x.v
 vm:x.v≤m
 used:x.used≤yA2 n
 tab:TbOk x.N x.a r
 room:(yAh r).length≤234*yAu n
abbrev stL (s n:Nat) (x:StH):List SP:=[stP s x.d x.q n (x.v:Nat) (some ⟨x.g,0,none⟩) x.D.life false,DiskP x.d x.D,tbP x.q x.a x.b,arP x.N,yZ5 x.g x.d n x.v x.used x.D.life]
structure StGo (x y:StH) (did:Bool):Prop where
 d:y.d=x.d
 sub:∀ z ∈ x.N,z ∈ y.N
 go:did=true→∃ k:Nat,k≤1∧y.v=x.v+k∧y.D.flushes=w64 (x.D.flushes+(1+2*(k:Nat)))
 no:did=false→y.v=x.v∧y.D=x.D
section
variable {W:World} {F:Nat→Addr} {r:Rows} {s n m:Nat}
theorem yOq (hE8:ErrsOn L8 W F) (e17:W.cell? ⟨4,0,none⟩=some (yAr F 17)) (hN:NibAt W) (h1:64≤n) (h2:n≤65536) (x:StH) (hI:StI n m r x) (hm:m+1≤1099511627776)
 (A:SP) (oa:Option Addr) (oc:Nat) (ops:List BOp) (hL:Lv W opC 3 A oa ops) (ho:ops.length≤100000000) (hne:yA1 ops≠[]) (hl:r.length≤100000000)
 (rc:List UInt8) (hrc:rc=yBN (yA1 ops)) (hsz:rc.length≤1048576) (hlg:(rc.length:Int)≤yBw (yA2 n:Nat)) (hfit:¬ (x.used+(yCK rc).length≤yA2 n)) (hroom:(yAh (yAJ r (yA1 ops))).length≤234*yAu n) :
 Ct prog W 20 [zPp s,.slice oa ops.length oc] (A::stL s n x) (fun _:{y:StH//StI n (m+1) (yAJ r (yA1 ops)) y∧StGo x y true}=>.nilIface) (fun y=>A::stL s n y.1):=by
 obtain ⟨d,q,g,v,used,D,N,a,b⟩:=x
 obtain ⟨hR,v1,vm,hus,hT,hrm⟩:=hI
 dsimp only at hR v1 vm hus hT hrm hfit ⊢
 obtain ⟨f1,f2,f3,f4⟩:=yAO h1 v
 have hA:=yA8 h2
 have hlN:1≤yA2 n:=by unfold yA2 yAu;omega
 have hdn:yDW D D.life false=false:=by unfold yDW;rw [hR.rest.calm.1];simp
 obtain ⟨k1,k2,k3,k4,k5,k6,k7⟩:=hR.fold r h1 h2 zO hrm
 have hfl:(yWA (yDU D n (v+1) r) n (v+1) 0 rc).flushes=w64 (D.flushes+(1+2*((1:Nat):Int))):=by
  rw [k3.log_fl,hR.fold_fl r h1 h2 zO hrm]
  unfold w64 Go.RowKit.wrap64
  omega
 have hpl:=yCL rc
 have hcl:=yQE hlN zO hlg
 have hz:0+(yCK rc).length≤yA2 n:=zO
 obtain ⟨w1,w2⟩:=k3.log h1 rc hz
 have hn3:=k3.nn
 obtain ⟨p1,p2,p3,p4,p5,p6,-,-,-,-⟩:=yOn k3.rest (at_:=yAK n) (v:=v+1) (used:=0) (yLw rc) zO
 have cdn:=yTe (W:=W) (s:=s) (d:=d) (q:=q) (n:=n) (v:Nat) (some ⟨g,0,none⟩) D.life hdn
 have cno:=yHS (W:=W) A oa oc ops hL zO
 have hnl:(yA1 ops).length≤ops.length:=yOm ops
 have hen:=yJu ops
 obtain ⟨os,hos⟩:∃ os,os=yA1 ops:=⟨_,rfl⟩
 rw [← hos] at cno hnl hne hen hrc hroom ⊢
 rw [← hrc] at hen
 have hown:∀ xa xc,Lv W opC 3 (lsP opC 60 3 (.slice xa os.length xc) os) xa os:=fun xa xc=>Lv.own yBy rfl
 have cen:=fun xa xc=>yHR (W:=W) (F:=F) _ xa xc os (hown xa xc) (by rw [← hrc];omega) zO (fun h=>by rw [hen] at h;cases h) (fun h=>by rw [hen] at h;cases h)
 rw [hen] at cen
 have clg:=yGt (W:=W) (s:=s) (d:=d) (q:=q) (n:=n) (v:Nat) (some ⟨g,0,none⟩) D.life false h2
 have cro:=yCr (W:=W) (s:=s) (d:=d) (q:=q) (n:=n) (v:Nat) (some ⟨g,0,none⟩) D.life false h2
 have caf:=fun xa xc=>yJz (W:=W) (s:=s) (d:=d) (q:=q) (n:=n) (b:=b) (v:Nat) (some ⟨g,0,none⟩) D.life false hT _ xa xc os (hown xa xc) zO zO
 have cfi:=yOb (W:=W) (p:=d) (g:=g) (yAK n:Nat) (yA2 n:Nat) (v:Nat) (used:Nat) D.life false rc.length zO ⟨zO,zO⟩ ⟨zO,zO⟩
 rw [show decide (0≤(rc.length:Int)∧yBQ rc.length≤(yA2 n:Nat)-(used:Nat))=false from zZ zO] at cfi
 have cfo:=fun (N:List Nd) (hT:TbOk N a r)=>yHd (W:=W) (s:=s) (d:=d) (q:=q) (b:=b) (D:=D) hE8 hN h1 h2 v zO (some ⟨g,0,none⟩) D.life false hT hR.nn hrm (by rw [hR.rest.und];simp) k1 k5 k6 k2 k7 hn3
 obtain ⟨D2,hD2⟩:∃ D2,D2=yDU D n (v+1) r:=⟨_,rfl⟩
 rw [← hD2] at k3 k4 w1 w2 hn3 p1 p2 p3 p4 p5 p6 hfl
 have cap:=fun g2=>yML (W:=W) (p:=d) (g:=g2) (D:=D2) hE8 e17 hN (yAK n:Nat) (yA2 n:Nat) D2.life (v+1) 0 rc zO (by unfold yDW;rw [k3.rest.calm.1];simp) ⟨zO,zO⟩ zO hsz zO ⟨zO,zO⟩ ⟨zO,zO⟩ (by rw [k3.rest.und];simp)
 rw [p1] at cap
 have hu2:((0:Nat):Int)+yBQ rc.length=(((yCK rc).length:Nat):Int):=zO
 simp only [if_true,Bool.not_true,hu2] at cap
 have csy:=fun g2=>yS8 (W:=W) (p:=d) (g:=g2) (D:=(yEi (yAK n:Nat) (v+1) 0 (yCK rc) 0 D2).2) hE8 (yAK n:Nat) (yA2 n:Nat) ((v+1:Nat):Int) (((yCK rc).length:Nat):Int) D2.life (by unfold yDW;rw [p2,p3];simp) (by rw [p4];omega)
 rw [p6] at csy
 simp only [if_true] at csy
 have hlast:(yEi (yAK n:Nat) (v+1) 0 (yCK rc) 0 D2).2.flushD=yWA D2 n (v+1) 0 rc:=rfl
 rw [hlast] at csy
 obtain ⟨D3,hD3⟩:∃ D3,D3=yWA D2 n (v+1) 0 rc:=⟨_,rfl⟩
 rw [← hD3] at w1 w2 csy hfl
 obtain ⟨D1,hD1⟩:∃ D1,D1=(yEi (yAK n:Nat) (v+1) 0 (yCK rc) 0 D2).2:=⟨_,rfl⟩
 rw [← hD1] at cap csy
 rw [k4] at w2
 have cfo2:∀ (N:List Nd) (hT:TbOk N a r),Ct prog W 32 [zPp s] [stP s d q n (v:Nat) (some ⟨g,0,none⟩) D.life false,DiskP d D,tbP q a b,arP N] (fun _:Nat=>.nilIface)
  (fun g2=>[stP s d q n ((v+1:Nat):Int) (some ⟨g2,0,none⟩) D.life false,DiskP d D2,tbP q a b,arP N,yZ5 g2 d n (v+1) 0 D2.life]):=fun N hT=>by
  have:=cfo N hT
  rw [← hD2] at this
  exact this
 have cba:=fun (M:List Nd) (hM:∀ y ∈ N,y ∈ M) xa xc=>yCY (W:=W) (p:=q) (tb:=b) (hT.mono hM) _ xa xc os (hown xa xc) zO
 have q0:decide (((os.length:Nat):Int)=0)=false:=zZ (by
  have:=zLv.2 hne
  omega)
 have q1:decide (yBw (yA2 n:Nat)<(rc.length:Nat))=false:=zZ zO
 have q2:decide (((234*yAu n:Nat):Int)<((yAh (yAJ r os)).length:Nat))=false:=zZ zO
 have fin:∀ (M:List Nd) (a2:Option Addr) (b2:Int) (g2:Nat),(∀ z ∈ N,z ∈ M)→TbOk M a2 (yAJ r os)→StI n (m+1) (yAJ r os) ⟨d,q,g2,v+1,(yCK rc).length,D3,M,a2,b2⟩∧StGo ⟨d,q,g,v,used,D,N,a,b⟩ ⟨d,q,g2,v+1,(yCK rc).length,D3,M,a2,b2⟩ true:=fun M a2 b2 g2 hs h=>⟨⟨w1,by dsimp only;omega,by dsimp only;omega,by dsimp only;omega,h,hroom⟩,⟨rfl,hs,fun _=>⟨1,Nat.le_refl _,rfl,hfl⟩,fun h0=>by cases h0⟩⟩
 clear p1 p2 p3 p4 p5 p6 hD1 hD3 hD2 hu2 k1 k2 k5 k6 k7 cfo
 have hlf:D3.life=D.life:=w2
 rw [k4] at cap csy cfo2
 refine Ct.enter func20 rfl ntmps20 zW (fun R=>?_)
 repeat' (first|(refine yAb ?_;first|refine xca (cba M hM _ _) fun y=>?_;obtain ⟨⟨M2,a2,b2⟩,gM,hT2⟩:=y;dsimp only at gM hT2 ⊢|refine xca (csy _) fun _=>?_|refine xca (cap _) fun _=>?_|refine xca (cfo2 M (hT.mono hM)) fun g2=>?_|refine xca cfi fun _=>?_|refine xca cro fun _=>?_|refine xca (caf _ _) fun M=>?_;obtain ⟨M,hM⟩:=M;dsimp only at hM ⊢|refine xca clg fun _=>?_|refine xca (cen _ _) fun _=>?_|refine xca cno fun x=>?_;obtain ⟨xa,xc⟩:=x|refine xca cdn fun _=>?_)|refine yAa (yAf rfl rfl q0) ?_|refine yAa (yAe rfl rfl q2) ?_|refine yAa (yAe rfl rfl q1) ?_|refine xst ?_|refine xsa ?_;intro _|refine xsb ?_ ?_<;>intro _<;>try omega|refine xsc ?_|fail)
 all_goals exact xdn ⟨⟨d,q,g2,v+1,(yCK rc).length,D3,M2,a2,b2⟩,fin M2 a2 b2 g2 (fun z hz=>gM z (hM z hz)) hT2⟩ (hE:=by unfold stL;dsimp only;rw [hlf];exact (xN))
end
section
variable {W:World} {F:Nat→Addr} {r:Rows} {s n m:Nat}
theorem yOr (hE:ErrsOn L16 W F) (h1:64≤n) (h2:n≤65536) (x:StH) (hI:StI n m r x)
 (A:SP) (oa:Option Addr) (oc:Nat) (ops:List BOp) (hL:Lv W opC 3 A oa ops) (ho:ops.length≤100000000) (hl:r.length≤100000000) (hb:(yBN (yA1 ops)).length≤100000000000000) (hsb:(yAh (yAJ r (yA1 ops))).length≤4611686018427387904)
 (hno:yA1 ops=[]∨yJt n r ops≠0) :
 Ct prog W 20 [zPp s,.slice oa ops.length oc] (A::stL s n x) (fun _:{y:StH//StI n m r y∧StGo x y false}=>yAr F (yJt n r ops)) (fun y=>A::stL s n y.1):=by
 obtain ⟨d,q,g,v,used,D,N,a,b⟩:=x
 have hI0:=hI
 obtain ⟨hR,v1,vm,hus,hT,hrm⟩:=hI
 dsimp only at hR v1 vm hus hT hrm ⊢
 have hA:=yA8 h2
 have hlN:1≤yA2 n∧yA2 n≤65536:=by unfold yA2 yAu;omega
 have hdn:yDW D D.life false=false:=by unfold yDW;rw [hR.rest.calm.1];simp
 have e17:W.cell? ⟨4,0,none⟩=some (yAr F 17):=hE.at_ 17 zX
 have e18:W.cell? ⟨6,0,none⟩=some (yAr F 18):=hE.at_ 18 zX
 have cdn:=yTe (W:=W) (s:=s) (d:=d) (q:=q) (n:=n) (v:Nat) (some ⟨g,0,none⟩) D.life hdn
 have cno:=yHS (W:=W) A oa oc ops hL zO
 have hnl:(yA1 ops).length≤ops.length:=yOm ops
 have hen:=yJu ops
 have hcE:yJt n r ops=if yA1 ops=[] then 0 else if yBw (yA2 n:Nat)<((yBN (yA1 ops)).length:Nat) then 18 else if 234*yAu n<(yAh (yAJ r (yA1 ops))).length then 17 else 0:=rfl
 obtain ⟨os,hos⟩:∃ os,os=yA1 ops:=⟨_,rfl⟩
 obtain ⟨ce,hce⟩:∃ e,e=yJt n r ops:=⟨_,rfl⟩
 rw [← hos] at cno hnl hen hcE hb hsb hno
 rw [← hce] at hcE hno ⊢
 obtain ⟨rc,hrc⟩:∃ rc,rc=yBN os:=⟨_,rfl⟩
 rw [← hrc] at hen hcE hb
 have hown:∀ xa xc,Lv W opC 3 (lsP opC 60 3 (.slice xa os.length xc) os) xa os:=fun xa xc=>Lv.own yBy rfl
 have cen:=fun xa xc=>yHR (W:=W) (F:=F) _ xa xc os (hown xa xc) (by rw [← hrc];omega) zO (fun h=>by rw [hen] at h;cases h) (fun h=>by rw [hen] at h;cases h)
 rw [hen] at cen
 have clg:=yGt (W:=W) (s:=s) (d:=d) (q:=q) (n:=n) (v:Nat) (some ⟨g,0,none⟩) D.life false h2
 have cro:=yCr (W:=W) (s:=s) (d:=d) (q:=q) (n:=n) (v:Nat) (some ⟨g,0,none⟩) D.life false h2
 have caf:=fun xa xc=>yJz (W:=W) (s:=s) (d:=d) (q:=q) (n:=n) (b:=b) (v:Nat) (some ⟨g,0,none⟩) D.life false hT _ xa xc os (hown xa xc) zO hsb
 by_cases hz:os=[]
 ·rw [if_pos hz] at hcE
  have q0:decide (((os.length:Nat):Int)=0)=true:=zY (by rw [hz];rfl)
  rw [hcE]
  show Ct prog W 20 _ _ (fun _:{y:StH//StI n m r y∧StGo ⟨d,q,g,v,used,D,N,a,b⟩ y false}=>.nilIface) _
  refine Ct.enter func20 rfl ntmps20 zW (fun R=>?_)
  repeat' (first|(refine yAb ?_;first|refine xca (cen _ _) fun _=>?_|refine xca cno fun x=>?_;obtain ⟨xa,xc⟩:=x|refine xca cdn fun _=>?_)|refine yAa (yAf rfl rfl q0) ?_|refine xst ?_|refine xsa ?_;intro _|refine xsb ?_ ?_<;>intro _<;>try omega|refine xsc ?_|fail)
  all_goals exact xdn ⟨⟨d,q,g,v,used,D,N,a,b⟩,hI0,⟨rfl,fun _ h=>h,(fun h0=>by cases h0),fun _=>⟨rfl,rfl⟩⟩⟩
 rw [if_neg hz] at hcE
 have hno:ce≠0:=by rcases hno with h|h;exact absurd h hz;exact h
 have q0:decide (((os.length:Nat):Int)=0)=false:=zZ (by
  have:=zLv.2 hz
  omega)
 have hlv:=yJs hlN.1 hlN.2
 by_cases hg:yBw (yA2 n:Nat)<(rc.length:Nat)
 ·rw [if_pos hg] at hcE
  have q1:decide (yBw (yA2 n:Nat)<(rc.length:Nat))=true:=zY hg
  rw [hcE]
  refine Ct.enter func20 rfl ntmps20 zW (fun R=>?_)
  repeat' (first|(refine yAb ?_;first|refine xca clg fun _=>?_|refine xca (cen _ _) fun _=>?_|refine xca cno fun x=>?_;obtain ⟨xa,xc⟩:=x|refine xca cdn fun _=>?_)|refine yAj ?_;refine yAa (yAn rfl e18) ?_|refine yAa (yAf rfl rfl q0) ?_|refine yAa (yAe rfl rfl q1) ?_|refine xst ?_|refine xsa ?_;intro _|refine xsb ?_ ?_<;>intro _<;>try omega|refine xsc ?_|fail)
  all_goals exact xdn ⟨⟨d,q,g,v,used,D,N,a,b⟩,hI0,⟨rfl,fun _ h=>h,(fun h0=>by cases h0),fun _=>⟨rfl,rfl⟩⟩⟩
 rw [if_neg hg] at hcE
 have q1:decide (yBw (yA2 n:Nat)<(rc.length:Nat))=false:=zZ hg
 by_cases hf:234*yAu n<(yAh (yAJ r os)).length
 ·rw [if_pos hf] at hcE
  have q2:decide (((234*yAu n:Nat):Int)<((yAh (yAJ r os)).length:Nat))=true:=zY zO
  rw [hcE]
  refine Ct.enter func20 rfl ntmps20 zW (fun R=>?_)
  repeat' (first|(refine yAb ?_;first|refine xca cro fun _=>?_|refine xca (caf _ _) fun M=>?_;obtain ⟨M,hM⟩:=M;dsimp only at hM ⊢|refine xca clg fun _=>?_|refine xca (cen _ _) fun _=>?_|refine xca cno fun x=>?_;obtain ⟨xa,xc⟩:=x|refine xca cdn fun _=>?_)|refine yAj ?_;refine yAa (yAn rfl e17) ?_|refine yAa (yAf rfl rfl q0) ?_|refine yAa (yAe rfl rfl q2) ?_|refine yAa (yAe rfl rfl q1) ?_|refine xst ?_|refine xsa ?_;intro _|refine xsb ?_ ?_<;>intro _<;>try omega|refine xsc ?_|fail)
  all_goals exact xdn ⟨⟨d,q,g,v,used,D,M,a,b⟩,⟨hR,v1,vm,hus,hT.mono hM,hrm⟩,⟨rfl,hM,(fun h0=>by cases h0),fun _=>⟨rfl,rfl⟩⟩⟩
 ·rw [if_neg hf] at hcE
  exact absurd hcE hno
def yX0 (n:Nat) (r:Rows) (ops:List BOp):Bool:=decide (yA1 ops≠[]∧yJt n r ops=0)
theorem yVw (hE:ErrsOn L16 W F) (hE8:ErrsOn L8 W F) (hN:NibAt W) (h1:64≤n) (h2:n≤4096) (hm:m+1≤1099511627776) (x:StH) (hx:StI n m r x)
 (A:SP) (oa:Option Addr) (oc:Nat) (ops:List BOp) (hL:Lv W opC 3 A oa ops) (ho:ops.length≤100000000) (hl:r.length≤100000000) (hb:(yBN (yA1 ops)).length≤100000000000000) (hsb:(yAh (yAJ r (yA1 ops))).length≤4611686018427387904) :
 Ct prog W 20 [zPp s,.slice oa ops.length oc] (A::stL s n x) (fun _:{y:StH//StI n (m+1) (yQF n r ops) y∧StGo x y (yX0 n r ops)}=>yAr F (yJt n r ops)) (fun y=>A::stL s n y.1):=by
 have e17:W.cell? ⟨4,0,none⟩=some (yAr F 17):=hE.at_ 17 zX
 have up:∀ {r':Rows} {y:StH},StI n m r' y→StI n (m+1) r' y:=fun h=>⟨h.rdy,h.v1,Nat.le_succ_of_le h.vm,h.used,h.tab,h.room⟩
 by_cases hno:yA1 ops=[]∨yJt n r ops≠0
 ·have hr:yQF n r ops=r:=by
   unfold yQF
   split
   ·rename_i h0
    rcases hno with h|h
    ·rw [h];rfl
    ·exact absurd h0 h
   ·rfl
  have hd:yX0 n r ops=false:=zZ fun h=>hno.elim h.1 (fun h'=>h' h.2)
  rw [hr,hd]
  have:=yOr (W:=W) (F:=F) (s:=s) hE h1 zO x hx A oa oc ops hL ho hl hb hsb hno
  exact this.to (fun y=>⟨y.1,up y.2.1,y.2.2⟩) (fun _=>rfl) (fun y R g q=>q)
 ·have hne:yA1 ops≠[]:=fun h=>hno (.inl h)
  have h0:yJt n r ops=0:=Classical.byContradiction fun h=>hno (.inr h)
  have hr:yQF n r ops=yAJ r (yA1 ops):=if_pos h0
  have hd:yX0 n r ops=true:=zY ⟨hne,h0⟩
  have hce:=h0
  unfold yJt at hce
  rw [if_neg hne] at hce
  have hlg:¬ yBw (yA2 n:Nat)<((yBN (yA1 ops)).length:Nat):=fun h=>by rw [if_pos h] at hce;cases hce
  rw [if_neg hlg] at hce
  have hrm:¬ 234*yAu n<(yAh (yAJ r (yA1 ops))).length:=fun h=>by rw [if_pos h] at hce;cases hce
  have hlN:1≤yA2 n∧yA2 n≤4096:=by unfold yA2 yAu;omega
  have hlv:=yJs hlN.1 (show yA2 n≤65536 by omega)
  rw [hr,h0,hd]
  show Ct prog W 20 _ _ (fun _:{y:StH//StI n (m+1) (yAJ r (yA1 ops)) y∧StGo x y true}=>.nilIface) _
  by_cases hfit:x.used+(yCK (yBN (yA1 ops))).length≤yA2 n
  ·obtain ⟨d,q,g,v,used,D,N,a,b⟩:=x
   obtain ⟨hR,v1,vm,hus,hT,hrm0⟩:=hx
   dsimp only at hR v1 vm hus hT hrm0 hfit
   obtain ⟨w1,w2⟩:=hR.log h1 _ hfit
   have hfl:=hR.log_fl (used:=used) (yBN (yA1 ops))
   have:=yQH (W:=W) (F:=F) (s:=s) (d:=d) (q:=q) (n:=n) (g:=g) (b:=b) hE8 e17 hN h1 zO v used ⟨v1,zO⟩ hR.rest hR.nn hT A oa oc ops hL zO hne zO (yBN (yA1 ops)) (yJu ops) zO zO zO hfit zO
   refine this.to (fun y=>⟨⟨d,q,g,v,used+(yCK (yBN (yA1 ops))).length,yWA D n v used (yBN (yA1 ops)),y.1.1,y.1.2.1,y.1.2.2⟩,⟨w1,v1,by dsimp only;omega,hfit,y.2.2,zO⟩,⟨rfl,y.2.1,fun _=>⟨0,zLA _,rfl,hfl⟩,fun h=>by cases h⟩⟩) (fun _=>rfl) (fun y R g' q'=>?_)
   unfold stL
   dsimp only
   rw [w2]
   exact q'
  ·have:=yOq (W:=W) (F:=F) (s:=s) (m:=m) hE8 e17 hN h1 zO x hx hm A oa oc ops hL ho hne hl (yBN (yA1 ops)) rfl zO zO hfit zO
   exact this
end
end Go.Proofs.YtlnbkbfblhofbaaGreatDoor
