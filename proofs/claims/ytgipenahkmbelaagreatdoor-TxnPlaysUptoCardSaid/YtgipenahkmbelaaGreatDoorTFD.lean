/-
  StWE, StWF.
-/
import Derived.Test.YtgipenahkmbelaaGreatDoorTFB
import Derived.Test.YtgipenahkmbelaaGreatDoorTES
import Derived.Test.YtgipenahkmbelaaGreatDoorTEX
set_option maxHeartbeats 64000000
namespace Go.Proofs.YtgipenahkmbelaaGreatDoor
open Go Go.RowKit
def fmtD (n:Nat) (r:Rows):Dsk:=fldD (Dsk.blank n) n 1 r
section
variable {W:World} {F:Nat→Addr} {r:Rows} {d n:Nat}
theorem snewF_ct (hE:ErrsOn L16 W F) (hE8:ErrsOn L8 W F) (hN:NibAt W) (h1:64≤n) (h2:n≤4096) (A:SP) (oa:Option Addr) (oc:Nat) (ops:List BOp) (hL:Lv W opC 3 A oa ops) (ho:ops.length≤100000000) (hr:zAf [] ops=r) (hsn:(zBd r).length≤234*layA n) :
 Ct Tryz.prog W 34 [.pointer (some ⟨d,0,none⟩),.slice oa ops.length oc] [A,DiskP d (Dsk.blank n)] (fun _:Unit=>.nilIface) (fun _=>[A,DiskP d (fmtD n r)]):=sformatR_ct hE hE8 hN h1 (by omega) A oa oc ops hL ho r hr hsn
theorem snewO_ct (hE:ErrsOn L16 W F) (hE8:ErrsOn L8 W F) (hN:NibAt W) (h1:64≤n) (h2:n≤4096) (hr:RisR r) (hsn:(zBd r).length≤234*layA n) :
 Ct Tryz.prog W 35 [.pointer (some ⟨d,0,none⟩)] [DiskP d (fmtD n r)] (fun s:Nat=>.tuple #[.pointer (some ⟨s,0,none⟩),.nilIface]) (fun s=>[StQ s n 2 r]):=by
 obtain ⟨g1,g2,g3,g4,g5,g6,g7,g8⟩:=(Ready.blank h1 (show n≤65536 by omega)).fold r h1 (by omega) (by omega) hsn
 obtain ⟨k1,k2,k3,k4,k5,k6,k7,k8⟩:=g3.ready.fold r h1 (by omega) (by omega) hsn
 have hc:=sopenR_ct (W:=W) (F:=F) (d:=d) (D:=fmtD n r) hE hE8 hN h1 (by omega) hr hsn 1 ⟨by omega,by omega⟩ g3
 refine hc.to (fun x=>x.1) (fun _=>rfl) (fun x R g q=>?_)
 obtain ⟨s,⟨q',⟨⟨N,a,b⟩,gN,hT⟩⟩,gj⟩:=x
 have e:(fldD (fmtD n r) n (1+1) r).life=(fmtD n r).life:=k4
 refine StQ.star (s:=s) (n:=n) (m:=2) (r:=r) ⟨d,q',gj,2,0,fldD (fmtD n r) n (1+1) r,N,a,b⟩ ⟨k3.s,by dsimp only;omega,by dsimp only;omega,by dsimp only;omega,hT,hsn⟩ g ?_
 unfold stL
 dsimp only
 rw [e]
 dsimp only at q
 rw [e] at q
 exact q
end
end Go.Proofs.YtgipenahkmbelaaGreatDoor
namespace Go.Proofs.YtgipenahkmbelaaGreatDoor
open Go Go.RowKit
section
variable {W:World} {F:Nat→Addr} {r:Rows} {s n k:Nat}
theorem StI.len {m:Nat} {x:StH} (h:StI n m r x) (h2:n≤65536):r.length≤10000000:=by
 have h1:=rows_snap r
 have h3:=snap_sum r
 have h4:=h.room
 have hA:=layA_le h2
 have h5:(zBd r).length=(vu r.length).length+(r.flatMap rowB).length:=by unfold zBd;rw [List.length_append]
 omega
theorem srowsQ (h2:n≤65536):Ct Tryz.prog W 32 [.pointer (some ⟨s,0,none⟩)] [StQ s n k r] (fun x:Option Addr × Nat=>.slice x.1 r.length x.2) (fun x=>[StQ s n k r,lsP rC 36 2 (.slice x.1 r.length x.2) r]):=by
 refine zBm (Hs:=[]) fun ⟨⟨d,q,g,v,used,D,N,a,b⟩,hx⟩=>?_
 have hl:=hx.len h2
 have h:=(srows_ct (W:=W) (s:=s) (d:=d) (q:=q) (n:=n) (b:=b) (v:Nat) (some ⟨g,0,none⟩) D.life false hx.tab (by omega)).frm [DiskP d D,jouU g d n v used D.life]
 refine h.conv (fun R=>?_) (fun x R g' q'=>?_)
 ·have e:∀ g',zAj ([stP s d q n (v:Nat) (some ⟨g,0,none⟩) D.life false,DiskP d D,tbP q a b,arP N,jouU g d n v used D.life]++R) g'→zAj ([stP s d q n (v:Nat) (some ⟨g,0,none⟩) D.life false,tbP q a b,arP N,DiskP d D,jouU g d n v used D.life]++R) g':=(xN)
  exact e
 ·have e:∀ g',zAj ([stP s d q n (v:Nat) (some ⟨g,0,none⟩) D.life false,tbP q a b,arP N,lsP rC 36 2 (.slice x.1 r.length x.2) r,DiskP d D,jouU g d n v used D.life]++R) g'→zAj ([stP s d q n (v:Nat) (some ⟨g,0,none⟩) D.life false,DiskP d D,tbP q a b,arP N,jouU g d n v used D.life,lsP rC 36 2 (.slice x.1 r.length x.2) r]++R) g':=(xN)
  exact StQ.star (s:=s) (R:=lsP rC 36 2 (.slice x.1 r.length x.2) r::R) ⟨d,q,g,v,used,D,N,a,b⟩ hx g' (e g' q')
theorem safterQ (h2:n≤65536) (A:SP) (oa:Option Addr) (oc:Nat) (ops:List BOp) (hL:Lv W opC 3 A oa ops) (ho:ops.length≤100000000) (hs:(zBd (zAf r ops)).length≤4611686018427387904) :
 Ct Tryz.prog W 52 [.pointer (some ⟨s,0,none⟩),.slice oa ops.length oc] [StQ s n k r,A] (fun _:Unit=>.int .i64 ((zBd (zAf r ops)).length:Nat)) (fun _=>[StQ s n k r,A]):=by
 refine zBm fun ⟨⟨d,q,g,v,used,D,N,a,b⟩,hx⟩=>?_
 have hl:=hx.len h2
 have h:=(safter_ct (W:=W) (s:=s) (d:=d) (q:=q) (n:=n) (b:=b) (v:Nat) (some ⟨g,0,none⟩) D.life false hx.tab A oa oc ops hL (by omega) hs).frm [DiskP d D,jouU g d n v used D.life]
 refine (h.conv (A':=[stP s d q n (v:Nat) (some ⟨g,0,none⟩) D.life false,DiskP d D,tbP q a b,arP N,jouU g d n v used D.life,A]) (B':=fun _=>[StQ s n k r,A]) (fun R=>?_) (fun M R g' q'=>?_)).to (fun _=>()) (fun _=>rfl) (fun _ _ _ q=>q)
 ·have e:∀ g',zAj ([stP s d q n (v:Nat) (some ⟨g,0,none⟩) D.life false,DiskP d D,tbP q a b,arP N,jouU g d n v used D.life,A]++R) g'→zAj ([A,stP s d q n (v:Nat) (some ⟨g,0,none⟩) D.life false,tbP q a b,arP N,DiskP d D,jouU g d n v used D.life]++R) g':=(xN)
  exact e
 ·have e:∀ g',zAj ([A,stP s d q n (v:Nat) (some ⟨g,0,none⟩) D.life false,tbP q a b,arP M.1,DiskP d D,jouU g d n v used D.life]++R) g'→zAj ([stP s d q n (v:Nat) (some ⟨g,0,none⟩) D.life false,DiskP d D,tbP q a b,arP M.1,jouU g d n v used D.life,A]++R) g':=(xN)
  exact StQ.star (s:=s) (R:=A::R) ⟨d,q,g,v,used,D,M.1,a,b⟩ ⟨hx.rdy,hx.v1,hx.vm,hx.used,hx.tab.mono M.2,hx.room⟩ g' (e g' q')
theorem txbeginB (h2:n≤65536) (hr:RisR r):Ct Tryz.prog W 10 [.pointer (some ⟨s,0,none⟩)] [StQ s n k r] (fun t:Nat=>.pointer (some ⟨t,0,none⟩)) (fun t=>[StQ s n k r,TxB t s r [] r 0]):=by
 refine zBm (Hs:=[]) fun ⟨⟨d,q,g,v,used,D,N,a,b⟩,hx⟩=>?_
 have hl:=hx.len h2
 have h:=(txbegin_ct (W:=W) (s:=s) (d:=d) (q:=q) (n:=n) (b:=b) (v:Nat) (some ⟨g,0,none⟩) D.life false hx.tab (by omega)).frm [DiskP d D,jouU g d n v used D.life]
 have ek:TxKB r [] r 0 [] []:=⟨rfl,Nat.le_refl _,Nat.le_refl _,List.nodup_nil,(fun x hm=>by rw [(by simpa using hm:x=r)];exact hr),(fun x hm k hk=>by rw [(by simpa using hm:x=r)] at hk;exact absurd rfl hk),fun i u x y h=>by simp at h⟩
 rw [ofR_ris hr] at h
 refine h.conv (fun R=>?_) (fun t R g' q'=>?_)
 ·have e:∀ g',zAj ([stP s d q n (v:Nat) (some ⟨g,0,none⟩) D.life false,DiskP d D,tbP q a b,arP N,jouU g d n v used D.life]++R) g'→zAj ([stP s d q n (v:Nat) (some ⟨g,0,none⟩) D.life false,tbP q a b,arP N,DiskP d D,jouU g d n v used D.life]++R) g':=(xN)
  exact e
 ·have e:∀ g',zAj ([stP s d q n (v:Nat) (some ⟨g,0,none⟩) D.life false,tbP q a b,arP N,TxP [] t s r [] [] false,DiskP d D,jouU g d n v used D.life]++R) g'→zAj (TxP [] t s r [] [] false::([stP s d q n (v:Nat) (some ⟨g,0,none⟩) D.life false,DiskP d D,tbP q a b,arP N,jouU g d n v used D.life]++R)) g':=fun g' q'=>by
   have e2:∀ g',zAj ([stP s d q n (v:Nat) (some ⟨g,0,none⟩) D.life false,tbP q a b,arP N,TxP [] t s r [] [] false,DiskP d D,jouU g d n v used D.life]++R) g'→zAj ([TxP [] t s r [] [] false,stP s d q n (v:Nat) (some ⟨g,0,none⟩) D.life false,DiskP d D,tbP q a b,arP N,jouU g d n v used D.life]++R) g':=(xN)
   exact e2 g' q'
  have q2:=TxB.star ek g' (e g' q')
  have q3:zAj (stL s n ⟨d,q,g,v,used,D,N,a,b⟩++(TxB t s r [] r 0::R)) g':=starL_perm (List.perm_middle.symm) g' q2
  exact StQ.star (s:=s) (R:=TxB t s r [] r 0::R) ⟨d,q,g,v,used,D,N,a,b⟩ hx g' q3
end
end Go.Proofs.YtgipenahkmbelaaGreatDoor
