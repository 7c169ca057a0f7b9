/-
  StWB, StWC.
-/
import Derived.Test.YtgipenahkmbelaaGreatDoorTEQ
import Derived.Test.YtgipenahkmbelaaGreatDoorTEP
import Derived.Test.YtgipenahkmbelaaGreatDoorTEC
import Derived.Test.YtgipenahkmbelaaGreatDoorTEI
set_option maxHeartbeats 64000000
namespace Go.Proofs.YtgipenahkmbelaaGreatDoor
open Go Go.RowKit
structure StH where
 d:Nat
 q:Nat
 g:Nat
 v:Nat
 used:Nat
 D:Dsk
 N:List Nd
 a:Option Addr
 b:Int
structure StI (n m:Nat) (r:Rows) (x:StH):Prop where
 rdy:RdyS n x.v x.D
 v1:1≤x.v
 vm:x.v≤m
 used:x.used≤logN n
 tab:TbOk x.N x.a r
 room:(zBd r).length≤234*layA n
abbrev stL (s n:Nat) (x:StH):List SP:=[stP s x.d x.q n (x.v:Nat) (some ⟨x.g,0,none⟩) x.D.life false,DiskP x.d x.D,tbP x.q x.a x.b,arP x.N,jouU x.g x.d n x.v x.used x.D.life]
structure StGo (x y:StH) (did:Bool):Prop where
 d:y.d=x.d
 sub:∀ z ∈ x.N,z ∈ y.N
 go:did=true→∃ k:Nat,k≤1∧y.v=x.v+k∧y.D.flushes=w64 (x.D.flushes+(1+2*(k:Nat)))
 no:did=false→y.v=x.v∧y.D=x.D
def StQ (s n m:Nat) (r:Rows):SP:=packP 87 s (fun x:{x:StH//StI n m r x}=>stL s n x.1)
theorem StQ.star {s n m:Nat} {r:Rows} (x:StH) (h:StI n m r x) {R:List SP}:∀ g,zAj (stL s n x++R) g→zAj (StQ s n m r::R) g:=fun g q=>
 pack_star (F:=fun x:{x:StH//StI n m r x}=>stL s n x.1) ⟨x,h⟩ g q
section
variable {W:World} {F:Nat→Addr} {r:Rows} {s n m:Nat}
set_option maxRecDepth 100000 in
theorem scommitF_ct (hE8:ErrsOn L8 W F) (e17:W.cell? ⟨5,0,none⟩=some (errV F 17)) (hN:NibAt W) (h1:64≤n) (h2:n≤65536) (x:StH) (hI:StI n m r x) (hm:m+1≤1099511627776)
 (A:SP) (oa:Option Addr) (oc:Nat) (ops:List BOp) (hL:Lv W opC 3 A oa ops) (ho:ops.length≤100000000) (hne:zBy ops≠[]) (hl:r.length≤100000000)
 (rc:List UInt8) (hrc:rc=encAll (zBy ops)) (hsz:rc.length≤1048576) (hlg:(rc.length:Int)≤largestI (logN n:Nat)) (hfit:¬ (x.used+(pcsJ rc).length≤logN n)) (hroom:(zBd (zAf r (zBy ops))).length≤234*layA n) :
 Ct Tryz.prog W 84 [.pointer (some ⟨s,0,none⟩),.slice oa ops.length oc] (A::stL s n x) (fun _:{y:StH//StI n (m+1) (zAf r (zBy ops)) y∧StGo x y true}=>.nilIface) (fun y=>A::stL s n y.1):=by
 obtain ⟨d,q,g,v,used,D,N,a,b⟩:=x
 obtain ⟨hR,v1,vm,hus,hT,hrm⟩:=hI
 dsimp only at hR v1 vm hus hT hrm hfit ⊢
 obtain ⟨f1,f2,f3,f4⟩:=lay_fit h1 v
 have hA:=layA_le h2
 have hlN:1≤logN n:=by unfold logN layA;omega
 have hdn:downB D D.life false=false:=by unfold downB;rw [hR.rest.calm.1];simp
 obtain ⟨k1,k2,k3,k4,k5,k6,k7⟩:=hR.fold r h1 h2 (by omega) hrm
 have hfl:(logD (fldD D n (v+1) r) n (v+1) 0 rc).flushes=w64 (D.flushes+(1+2*((1:Nat):Int))):=by
  rw [k3.log_fl,hR.fold_fl r h1 h2 (by omega) hrm]
  unfold w64 Go.RowKit.wrap64
  omega
 have hpl:=pcsJ_length rc
 have hcl:=cost_large hlN (by omega) hlg
 have hz:0+(pcsJ rc).length≤logN n:=by omega
 obtain ⟨w1,w2⟩:=k3.log h1 rc hz
 have hn3:=k3.nn
 obtain ⟨p1,p2,p3,p4,p5,p6,-,-,-,-⟩:=ap_rest k3.rest (at_:=logAt n) (v:=v+1) (used:=0) (pcsJ_le rc) (by omega)
 have cdn:=sup_ct (W:=W) (s:=s) (d:=d) (q:=q) (n:=n) (v:Nat) (some ⟨g,0,none⟩) D.life hdn
 have cno:=bnormal_ct (W:=W) A oa oc ops hL (by omega)
 have hnl:(zBy ops).length≤ops.length:=nrm_len ops
 have hen:=normD_enc ops
 obtain ⟨os,hos⟩:∃ os,os=zBy ops:=⟨_,rfl⟩
 rw [← hos] at cno hnl hne hen hrc hroom ⊢
 rw [← hrc] at hen
 have hown:∀ xa xc,Lv W opC 3 (lsP opC 49 3 (.slice xa os.length xc) os) xa os:=fun xa xc=>Lv.own zCa rfl
 have cen:=fun xa xc=>bencode_ct (W:=W) (F:=F) _ xa xc os (hown xa xc) (by rw [← hrc];omega) (by omega) (fun h=>by rw [hen] at h;cases h) (fun h=>by rw [hen] at h;cases h)
 rw [hen] at cen
 have clg:=slargest_ct (W:=W) (s:=s) (d:=d) (q:=q) (n:=n) (v:Nat) (some ⟨g,0,none⟩) D.life false h2
 have cro:=sroom_ct (W:=W) (s:=s) (d:=d) (q:=q) (n:=n) (v:Nat) (some ⟨g,0,none⟩) D.life false h2
 have caf:=fun xa xc=>safter_ct (W:=W) (s:=s) (d:=d) (q:=q) (n:=n) (b:=b) (v:Nat) (some ⟨g,0,none⟩) D.life false hT _ xa xc os (hown xa xc) (by omega) (by omega)
 have cfi:=fits_ct (W:=W) (p:=d) (g:=g) (logAt n:Nat) (logN n:Nat) (v:Nat) (used:Nat) D.life false rc.length (by omega) ⟨by omega,by omega⟩ ⟨by omega,by omega⟩
 rw [show decide (0≤(rc.length:Int)∧costI rc.length≤(logN n:Nat)-(used:Nat))=false from decide_eq_false (by omega)] at cfi
 have cfo:=fun (N:List Nd) (hT:TbOk N a r)=>sfold_ct (W:=W) (s:=s) (d:=d) (q:=q) (b:=b) (D:=D) hE8 hN h1 h2 v (by omega) (some ⟨g,0,none⟩) D.life false hT hR.nn hrm (by rw [hR.rest.und];simp) k1 k5 k6 k2 k7 hn3
 obtain ⟨D2,hD2⟩:∃ D2,D2=fldD D n (v+1) r:=⟨_,rfl⟩
 rw [← hD2] at k3 k4 w1 w2 hn3 p1 p2 p3 p4 p5 p6 hfl
 have cap:=fun g2=>append_ct (W:=W) (p:=d) (g:=g2) (D:=D2) hE8 e17 hN (logAt n:Nat) (logN n:Nat) D2.life (v+1) 0 rc (by omega) (by unfold downB;rw [k3.rest.calm.1];simp) ⟨by omega,by omega⟩ (by omega) hsz (by omega) ⟨by omega,by omega⟩ ⟨by omega,by omega⟩ (by rw [k3.rest.und];simp)
 rw [p1] at cap
 have hu2:((0:Nat):Int)+costI rc.length=(((pcsJ rc).length:Nat):Int):=by omega
 simp only [if_true,Bool.not_true,hu2] at cap
 have csy:=fun g2=>sync_ct (W:=W) (p:=d) (g:=g2) (D:=(apGo (logAt n:Nat) (v+1) 0 (pcsJ rc) 0 D2).2) hE8 (logAt n:Nat) (logN n:Nat) ((v+1:Nat):Int) (((pcsJ rc).length:Nat):Int) D2.life (by unfold downB;rw [p2,p3];simp) (by rw [p4];omega)
 rw [p6] at csy
 simp only [if_true] at csy
 have hlast:(apGo (logAt n:Nat) (v+1) 0 (pcsJ rc) 0 D2).2.flushD=logD D2 n (v+1) 0 rc:=rfl
 rw [hlast] at csy
 obtain ⟨D3,hD3⟩:∃ D3,D3=logD D2 n (v+1) 0 rc:=⟨_,rfl⟩
 rw [← hD3] at w1 w2 csy hfl
 obtain ⟨D1,hD1⟩:∃ D1,D1=(apGo (logAt n:Nat) (v+1) 0 (pcsJ rc) 0 D2).2:=⟨_,rfl⟩
 rw [← hD1] at cap csy
 rw [k4] at w2
 have cfo2:∀ (N:List Nd) (hT:TbOk N a r),Ct Tryz.prog W 66 [.pointer (some ⟨s,0,none⟩)] [stP s d q n (v:Nat) (some ⟨g,0,none⟩) D.life false,DiskP d D,tbP q a b,arP N] (fun _:Nat=>.nilIface)
  (fun g2=>[stP s d q n ((v+1:Nat):Int) (some ⟨g2,0,none⟩) D.life false,DiskP d D2,tbP q a b,arP N,jouU g2 d n (v+1) 0 D2.life]):=fun N hT=>by
  have:=cfo N hT
  rw [← hD2] at this
  exact this
 have cba:=fun (M:List Nd) (hM:∀ y ∈ N,y ∈ M) xa xc=>bapply_ct (W:=W) (p:=q) (tb:=b) (hT.mono hM) _ xa xc os (hown xa xc) (by omega)
 have q0:decide (((os.length:Nat):Int)=0)=false:=decide_eq_false (by
  have:=List.length_pos_iff.2 hne
  omega)
 have q1:decide (largestI (logN n:Nat)<(rc.length:Nat))=false:=decide_eq_false (by omega)
 have q2:decide (((234*layA n:Nat):Int)<((zBd (zAf r os)).length:Nat))=false:=decide_eq_false (by omega)
 have fin:∀ (M:List Nd) (a2:Option Addr) (b2:Int) (g2:Nat),(∀ z ∈ N,z ∈ M)→TbOk M a2 (zAf r os)→StI n (m+1) (zAf r os) ⟨d,q,g2,v+1,(pcsJ rc).length,D3,M,a2,b2⟩∧StGo ⟨d,q,g,v,used,D,N,a,b⟩ ⟨d,q,g2,v+1,(pcsJ rc).length,D3,M,a2,b2⟩ true:=fun M a2 b2 g2 hs h=>⟨⟨w1,by dsimp only;omega,by dsimp only;omega,by dsimp only;omega,h,hroom⟩,⟨rfl,hs,fun _=>⟨1,Nat.le_refl _,rfl,hfl⟩,fun h0=>by cases h0⟩⟩
 clear p1 p2 p3 p4 p5 p6 hD1 hD3 hD2 hu2 k1 k2 k5 k6 k7 cfo
 have hlf:D3.life=D.life:=w2
 rw [k4] at cap csy cfo2
 refine Ct.enter Tryz.func84 rfl Tryz.ntmps84 (by simp) (fun R=>?_)
 repeat' (first|(refine zAd ?_;first|(refine zAc xE (cba M hM _ _) xP rfl (fun y=>?_);obtain ⟨⟨M2,a2,b2⟩,gM,hT2⟩:=y;dsimp only at gM hT2 ⊢)|(refine zAc xE (csy _) xP rfl (fun _=>?_))|(refine zAc xE (cap _) xP rfl (fun _=>?_))|(refine zAc xE (cfo2 M (hT.mono hM)) xP rfl (fun g2=>?_))|(refine zAc xE cfi xP rfl (fun _=>?_))|(refine zAc xE cro xP rfl (fun _=>?_))|(refine zAc xE (caf _ _) xP rfl (fun M=>?_);obtain ⟨M,hM⟩:=M;dsimp only at hM ⊢)|(refine zAc xE clg xP rfl (fun _=>?_))|(refine zAc xE (cen _ _) xP rfl (fun _=>?_))|(refine zAc xE cno xP rfl (fun x=>?_);obtain ⟨xa,xc⟩:=x)|(refine zAc xE cdn xP rfl (fun _=>?_)))|(refine zBg ?_;refine zAb (zAr rfl rfl q0) ?_)|(refine zBf ?_;first|refine zAb (zAk rfl rfl q2) ?_|refine zAb (zAk rfl rfl q1) ?_)|refine xst ?_|(refine xsa ?_;intro _)|(refine xsb ?_ ?_ <;>intro _<;>try (exfalso;omega))|refine xsc ?_|fail)
 all_goals exact xdn ⟨⟨d,q,g2,v+1,(pcsJ rc).length,D3,M2,a2,b2⟩,fin M2 a2 b2 g2 (fun z hz=>gM z (hM z hz)) hT2⟩ (hE:=by unfold stL;dsimp only;rw [hlf];exact (xN))
end
end Go.Proofs.YtgipenahkmbelaaGreatDoor
namespace Go.Proofs.YtgipenahkmbelaaGreatDoor
open Go Go.RowKit
section
variable {W:World} {F:Nat→Addr} {r:Rows} {s n m:Nat}
set_option maxRecDepth 100000 in
theorem scommitN_ct (hE:ErrsOn L16 W F) (h1:64≤n) (h2:n≤65536) (x:StH) (hI:StI n m r x)
 (A:SP) (oa:Option Addr) (oc:Nat) (ops:List BOp) (hL:Lv W opC 3 A oa ops) (ho:ops.length≤100000000) (hl:r.length≤100000000) (hb:(encAll (zBy ops)).length≤100000000000000) (hsb:(zBd (zAf r (zBy ops))).length≤4611686018427387904)
 (hno:zBy ops=[]∨commE n r ops≠0) :
 Ct Tryz.prog W 84 [.pointer (some ⟨s,0,none⟩),.slice oa ops.length oc] (A::stL s n x) (fun _:{y:StH//StI n m r y∧StGo x y false}=>errV F (commE n r ops)) (fun y=>A::stL s n y.1):=by
 obtain ⟨d,q,g,v,used,D,N,a,b⟩:=x
 have hI0:=hI
 obtain ⟨hR,v1,vm,hus,hT,hrm⟩:=hI
 dsimp only at hR v1 vm hus hT hrm ⊢
 have hA:=layA_le h2
 have hlN:1≤logN n∧logN n≤65536:=by unfold logN layA;omega
 have hdn:downB D D.life false=false:=by unfold downB;rw [hR.rest.calm.1];simp
 have e17:W.cell? ⟨5,0,none⟩=some (errV F 17):=hE.at_ 17 (by decide)
 have e18:W.cell? ⟨9,0,none⟩=some (errV F 18):=hE.at_ 18 (by decide)
 have cdn:=sup_ct (W:=W) (s:=s) (d:=d) (q:=q) (n:=n) (v:Nat) (some ⟨g,0,none⟩) D.life hdn
 have cno:=bnormal_ct (W:=W) A oa oc ops hL (by omega)
 have hnl:(zBy ops).length≤ops.length:=nrm_len ops
 have hen:=normD_enc ops
 have hcE:commE n r ops=if zBy ops=[] then 0 else if largestI (logN n:Nat)<((encAll (zBy ops)).length:Nat) then 18 else if 234*layA n<(zBd (zAf r (zBy ops))).length then 17 else 0:=rfl
 obtain ⟨os,hos⟩:∃ os,os=zBy ops:=⟨_,rfl⟩
 obtain ⟨ce,hce⟩:∃ e,e=commE n r ops:=⟨_,rfl⟩
 rw [← hos] at cno hnl hen hcE hb hsb hno
 rw [← hce] at hcE hno ⊢
 obtain ⟨rc,hrc⟩:∃ rc,rc=encAll os:=⟨_,rfl⟩
 rw [← hrc] at hen hcE hb
 have hown:∀ xa xc,Lv W opC 3 (lsP opC 49 3 (.slice xa os.length xc) os) xa os:=fun xa xc=>Lv.own zCa rfl
 have cen:=fun xa xc=>bencode_ct (W:=W) (F:=F) _ xa xc os (hown xa xc) (by rw [← hrc];omega) (by omega) (fun h=>by rw [hen] at h;cases h) (fun h=>by rw [hen] at h;cases h)
 rw [hen] at cen
 have clg:=slargest_ct (W:=W) (s:=s) (d:=d) (q:=q) (n:=n) (v:Nat) (some ⟨g,0,none⟩) D.life false h2
 have cro:=sroom_ct (W:=W) (s:=s) (d:=d) (q:=q) (n:=n) (v:Nat) (some ⟨g,0,none⟩) D.life false h2
 have caf:=fun xa xc=>safter_ct (W:=W) (s:=s) (d:=d) (q:=q) (n:=n) (b:=b) (v:Nat) (some ⟨g,0,none⟩) D.life false hT _ xa xc os (hown xa xc) (by omega) hsb
 by_cases hz:os=[]
 ·rw [if_pos hz] at hcE
  have q0:decide (((os.length:Nat):Int)=0)=true:=decide_eq_true (by rw [hz];rfl)
  rw [hcE]
  show Ct Tryz.prog W 84 _ _ (fun _:{y:StH//StI n m r y∧StGo ⟨d,q,g,v,used,D,N,a,b⟩ y false}=>.nilIface) _
  refine Ct.enter Tryz.func84 rfl Tryz.ntmps84 (by simp) (fun R=>?_)
  repeat' (first|(refine zAd ?_;first|(refine zAc xE (cen _ _) xP rfl (fun _=>?_))|(refine zAc xE cno xP rfl (fun x=>?_);obtain ⟨xa,xc⟩:=x)|(refine zAc xE cdn xP rfl (fun _=>?_)))|(refine zBg ?_;refine zAb (zAr rfl rfl q0) ?_)|refine xst ?_|(refine xsa ?_;intro _)|(refine xsb ?_ ?_ <;>intro _<;>try (exfalso;omega))|refine xsc ?_|fail)
  all_goals exact xdn ⟨⟨d,q,g,v,used,D,N,a,b⟩,hI0,⟨rfl,fun _ h=>h,(fun h0=>by cases h0),fun _=>⟨rfl,rfl⟩⟩⟩
 rw [if_neg hz] at hcE
 have hno:ce≠0:=by rcases hno with h|h;exact absurd h hz;exact h
 have q0:decide (((os.length:Nat):Int)=0)=false:=decide_eq_false (by
  have:=List.length_pos_iff.2 hz
  omega)
 have hlv:=largest_val hlN.1 hlN.2
 by_cases hg:largestI (logN n:Nat)<(rc.length:Nat)
 ·rw [if_pos hg] at hcE
  have q1:decide (largestI (logN n:Nat)<(rc.length:Nat))=true:=decide_eq_true hg
  rw [hcE]
  refine Ct.enter Tryz.func84 rfl Tryz.ntmps84 (by simp) (fun R=>?_)
  repeat' (first|(refine zAd ?_;first|(refine zAc xE clg xP rfl (fun _=>?_))|(refine zAc xE (cen _ _) xP rfl (fun _=>?_))|(refine zAc xE cno xP rfl (fun x=>?_);obtain ⟨xa,xc⟩:=x)|(refine zAc xE cdn xP rfl (fun _=>?_)))|(refine zAm ?_;refine zAb (zAt rfl e18) ?_)|(refine zBg ?_;refine zAb (zAr rfl rfl q0) ?_)|(refine zBf ?_;refine zAb (zAk rfl rfl q1) ?_)|refine xst ?_|(refine xsa ?_;intro _)|(refine xsb ?_ ?_ <;>intro _<;>try (exfalso;omega))|refine xsc ?_|fail)
  all_goals exact xdn ⟨⟨d,q,g,v,used,D,N,a,b⟩,hI0,⟨rfl,fun _ h=>h,(fun h0=>by cases h0),fun _=>⟨rfl,rfl⟩⟩⟩
 rw [if_neg hg] at hcE
 have q1:decide (largestI (logN n:Nat)<(rc.length:Nat))=false:=decide_eq_false hg
 by_cases hf:234*layA n<(zBd (zAf r os)).length
 ·rw [if_pos hf] at hcE
  have q2:decide (((234*layA n:Nat):Int)<((zBd (zAf r os)).length:Nat))=true:=decide_eq_true (by omega)
  rw [hcE]
  refine Ct.enter Tryz.func84 rfl Tryz.ntmps84 (by simp) (fun R=>?_)
  repeat' (first|(refine zAd ?_;first|(refine zAc xE cro xP rfl (fun _=>?_))|(refine zAc xE (caf _ _) xP rfl (fun M=>?_);obtain ⟨M,hM⟩:=M;dsimp only at hM ⊢)|(refine zAc xE clg xP rfl (fun _=>?_))|(refine zAc xE (cen _ _) xP rfl (fun _=>?_))|(refine zAc xE cno xP rfl (fun x=>?_);obtain ⟨xa,xc⟩:=x)|(refine zAc xE cdn xP rfl (fun _=>?_)))|(refine zAm ?_;refine zAb (zAt rfl e17) ?_)|(refine zBg ?_;refine zAb (zAr rfl rfl q0) ?_)|(refine zBf ?_;first|refine zAb (zAk rfl rfl q2) ?_|refine zAb (zAk rfl rfl q1) ?_)|refine xst ?_|(refine xsa ?_;intro _)|(refine xsb ?_ ?_ <;>intro _<;>try (exfalso;omega))|refine xsc ?_|fail)
  all_goals exact xdn ⟨⟨d,q,g,v,used,D,M,a,b⟩,⟨hR,v1,vm,hus,hT.mono hM,hrm⟩,⟨rfl,hM,(fun h0=>by cases h0),fun _=>⟨rfl,rfl⟩⟩⟩
 ·rw [if_neg hf] at hcE
  exact absurd hcE hno
def commB (n:Nat) (r:Rows) (ops:List BOp):Bool:=decide (zBy ops≠[]∧commE n r ops=0)
theorem scommitX (hE:ErrsOn L16 W F) (hE8:ErrsOn L8 W F) (hN:NibAt W) (h1:64≤n) (h2:n≤4096) (hm:m+1≤1099511627776) (x:StH) (hx:StI n m r x)
 (A:SP) (oa:Option Addr) (oc:Nat) (ops:List BOp) (hL:Lv W opC 3 A oa ops) (ho:ops.length≤100000000) (hl:r.length≤100000000) (hb:(encAll (zBy ops)).length≤100000000000000) (hsb:(zBd (zAf r (zBy ops))).length≤4611686018427387904) :
 Ct Tryz.prog W 84 [.pointer (some ⟨s,0,none⟩),.slice oa ops.length oc] (A::stL s n x) (fun _:{y:StH//StI n (m+1) (commR n r ops) y∧StGo x y (commB n r ops)}=>errV F (commE n r ops)) (fun y=>A::stL s n y.1):=by
 have e17:W.cell? ⟨5,0,none⟩=some (errV F 17):=hE.at_ 17 (by decide)
 have up:∀ {r':Rows} {y:StH},StI n m r' y→StI n (m+1) r' y:=fun h=>⟨h.rdy,h.v1,Nat.le_succ_of_le h.vm,h.used,h.tab,h.room⟩
 by_cases hno:zBy ops=[]∨commE n r ops≠0
 ·have hr:commR n r ops=r:=by
   unfold commR
   split
   ·rename_i h0
    rcases hno with h|h
    ·rw [h];rfl
    ·exact absurd h0 h
   ·rfl
  have hd:commB n r ops=false:=decide_eq_false fun h=>hno.elim h.1 (fun h'=>h' h.2)
  rw [hr,hd]
  have:=scommitN_ct (W:=W) (F:=F) (s:=s) hE h1 (by omega) x hx A oa oc ops hL ho hl hb hsb hno
  exact this.to (fun y=>⟨y.1,up y.2.1,y.2.2⟩) (fun _=>rfl) (fun y R g q=>q)
 ·have hne:zBy ops≠[]:=fun h=>hno (.inl h)
  have h0:commE n r ops=0:=Classical.byContradiction fun h=>hno (.inr h)
  have hr:commR n r ops=zAf r (zBy ops):=if_pos h0
  have hd:commB n r ops=true:=decide_eq_true ⟨hne,h0⟩
  have hce:=h0
  unfold commE at hce
  rw [if_neg hne] at hce
  have hlg:¬ largestI (logN n:Nat)<((encAll (zBy ops)).length:Nat):=fun h=>by rw [if_pos h] at hce;cases hce
  rw [if_neg hlg] at hce
  have hrm:¬ 234*layA n<(zBd (zAf r (zBy ops))).length:=fun h=>by rw [if_pos h] at hce;cases hce
  have hlN:1≤logN n∧logN n≤4096:=by unfold logN layA;omega
  have hlv:=largest_val hlN.1 (show logN n≤65536 by omega)
  rw [hr,h0,hd]
  show Ct Tryz.prog W 84 _ _ (fun _:{y:StH//StI n (m+1) (zAf r (zBy ops)) y∧StGo x y true}=>.nilIface) _
  by_cases hfit:x.used+(pcsJ (encAll (zBy ops))).length≤logN n
  ·obtain ⟨d,q,g,v,used,D,N,a,b⟩:=x
   obtain ⟨hR,v1,vm,hus,hT,hrm0⟩:=hx
   dsimp only at hR v1 vm hus hT hrm0 hfit
   obtain ⟨w1,w2⟩:=hR.log h1 _ hfit
   have hfl:=hR.log_fl (used:=used) (encAll (zBy ops))
   have:=scommit_ct (W:=W) (F:=F) (s:=s) (d:=d) (q:=q) (n:=n) (g:=g) (b:=b) hE8 e17 hN h1 (by omega) v used ⟨v1,by omega⟩ hR.rest hR.nn hT A oa oc ops hL (by omega) hne (by omega) (encAll (zBy ops)) (normD_enc ops) (by omega) (by omega) (by omega) hfit (by omega)
   refine this.to (fun y=>⟨⟨d,q,g,v,used+(pcsJ (encAll (zBy ops))).length,logD D n v used (encAll (zBy ops)),y.1.1,y.1.2.1,y.1.2.2⟩,⟨w1,v1,by dsimp only;omega,hfit,y.2.2,by omega⟩,⟨rfl,y.2.1,fun _=>⟨0,Nat.zero_le _,rfl,hfl⟩,fun h=>by cases h⟩⟩) (fun _=>rfl) (fun y R g' q'=>?_)
   unfold stL
   dsimp only
   rw [w2]
   exact q'
  ·have:=scommitF_ct (W:=W) (F:=F) (s:=s) (m:=m) hE8 e17 hN h1 (by omega) x hx hm A oa oc ops hL ho hne hl (encAll (zBy ops)) rfl (by omega) (by omega) hfit (by omega)
   exact this
theorem scommitQ (hE:ErrsOn L16 W F) (hE8:ErrsOn L8 W F) (hN:NibAt W) (h1:64≤n) (h2:n≤4096) (hm:m+1≤1099511627776)
 (A:SP) (oa:Option Addr) (oc:Nat) (ops:List BOp) (hL:Lv W opC 3 A oa ops) (ho:ops.length≤100000000) (hl:r.length≤100000000) (hb:(encAll (zBy ops)).length≤1000000000) (hsb:(zBd (zAf r (zBy ops))).length≤4611686018427387904) :
 Ct Tryz.prog W 84 [.pointer (some ⟨s,0,none⟩),.slice oa ops.length oc] [StQ s n m r,A] (fun _:Unit=>errV F (commE n r ops)) (fun _=>[StQ s n (m+1) (commR n r ops),A]):=by
 refine zBm fun ⟨x,hx⟩=>?_
 have:=scommitX (W:=W) (F:=F) (s:=s) hE hE8 hN h1 h2 hm x hx A oa oc ops hL ho hl (by omega) hsb
 refine (this.conv (fun R g q=>starL_perm (by
  rw [List.append_assoc]
  exact List.perm_middle) g q) (fun y R g q=>q)).to (fun _=>()) (fun _=>rfl) (fun y R g q=>?_)
 exact StQ.star y.1 y.2.1 g (starL_perm (List.perm_middle.symm) g q)
end
end Go.Proofs.YtgipenahkmbelaaGreatDoor
