/-
  StWG, StWH.
-/
import Derived.Test.YtnkhohfbijkohaaGreatDoorTEX
import Derived.Test.YtnkhohfbijkohaaGreatDoorTEU
import Derived.Test.YtnkhohfbijkohaaGreatDoorTEZ
set_option maxHeartbeats 64000000
namespace Go.Proofs.YtnkhohfbijkohaaGreatDoor
open Go Go.RowKit
section
variable {W:World} {F:Nat→Addr} {d n:Nat} {D:Dsk}
theorem sformatX_ct (hE:ErrsOn L16 W F) (hE8:ErrsOn L8 W F) (hN:NibAt W) (h1:64≤n) (h2:n≤65536) (hn:D.n=n) (ho:D.off=false) (hs:slotE D 0=0) (A:SP) (oa:Option Addr) (oc m:Nat) :
 Ct Tryz.prog W 15 [.pointer (some ⟨d,0,none⟩),.slice oa m oc] [A,DiskP d D] (fun _:Unit=>errV F 21) (fun _=>[A,DiskP d D]):=by
 have e21:W.cell? ⟨3,0,none⟩=some (errV F 21):=hE.at_ 21 (by decide)
 have cr:Ct Tryz.prog W 45 [.pointer (some ⟨d,0,none⟩),.int .i64 0] [DiskP d D] (fun _:Unit=>.tuple #[strV (slotS D 0),.int .i64 (slotN D 0),.nilIface]) (fun _=>[DiskP d D]):=by
  have:=sread_ct (W:=W) (p:=d) (D:=D) hE8 hN (by omega) 0
  rw [hs] at this
  exact this
 have csz:Ct Tryz.prog W 43 [.pointer (some ⟨d,0,none⟩)] [DiskP d D] (fun _:Unit=>.int .i64 (n:Nat)) (fun _=>[DiskP d D]):=by
  have:=size_ct (W:=W) (p:=d) (D:=D)
  rw [hn] at this
  exact this
 have cof:Ct Tryz.prog W 44 [.pointer (some ⟨d,0,none⟩)] [DiskP d D] (fun _:Unit=>.bool false) (fun _=>[DiskP d D]):=by
  have:=off_ct (W:=W) (p:=d) (D:=D)
  rw [ho] at this
  exact this
 have q1:decide ((n:Int)<64)=false:=decide_eq_false (by omega)
 refine Ct.enter Tryz.func15 rfl Tryz.ntmps15 (by simp) (fun R=>?_)
 repeat' (first|(refine zAd ?_;first|(refine zAa xE cr xP rfl (fun _=>?_))|(refine zAa xE cof xP rfl (fun _=>?_))|(refine zAa xE csz xP rfl (fun _=>?_)))|(refine zAh ?_;refine zAc (zAp rfl e21) ?_)|(refine zAs ?_;refine zAc (zAe rfl rfl q1) ?_)|refine xst ?_|(refine xsa ?_;intro _)|(refine xsb ?_ ?_ <;>intro _<;>try (exfalso;omega))|refine xsc ?_|fail)
 all_goals (exact xdn ())
theorem sformatF_ct (hE:ErrsOn L16 W F) (hE8:ErrsOn L8 W F) (hN:NibAt W) (h1:64≤n) (h2:n≤65536) (A:SP) (oa:Option Addr) (oc:Nat) (ops:List BOp) (hL:Lv W opC 3 A oa ops) (ho:ops.length≤100000000) (r:Rows) (hr:zAu [] ops=r) (hbig:234*layA n<(zAj r).length) (hmax:(zAj r).length≤4611686018427387904) :
 Ct Tryz.prog W 15 [.pointer (some ⟨d,0,none⟩),.slice oa ops.length oc] [A,DiskP d (Dsk.blank n)] (fun _:Unit=>errV F 17) (fun _=>[A,DiskP d (Dsk.blank n)]):=by
 have hA:=layA_le h2
 have e17:W.cell? ⟨4,0,none⟩=some (errV F 17):=hE.at_ 17 (by decide)
 obtain ⟨f1,f2,f3,f4⟩:=zBn h1 0
 have hb:=blank_rest n (by omega) h2
 obtain ⟨t1,t2,t3⟩:=Holds.told hb (a:=0) (by show 0+2≤n;omega) (Holds.blank n 0 (by omega))
 rw [if_pos rfl] at t1
 obtain ⟨ea,hea⟩:=errV_ne (E:=F) (show (14:Nat)≠0 by omega)
 have cr:Ct Tryz.prog W 45 [.pointer (some ⟨d,0,none⟩),.int .i64 0] [DiskP d (Dsk.blank n)] (fun _:Unit=>.tuple #[strV [],.int .i64 0,.iface 357 (.pointer (some ea))]) (fun _=>[DiskP d (Dsk.blank n)]):=by
  have:=sread_ct (W:=W) (p:=d) (D:=Dsk.blank n) hE8 hN h2 0
  have e0:slotE (Dsk.blank n) 0=14:=t1
  rw [e0,hea] at this
  have e1:slotS (Dsk.blank n) 0=[]:=by unfold slotS;rw [e0];rfl
  have e2:slotN (Dsk.blank n) 0=0:=by unfold slotN;rw [e0];rfl
  rw [e1,e2] at this
  exact this
 have csz:Ct Tryz.prog W 43 [.pointer (some ⟨d,0,none⟩)] [DiskP d (Dsk.blank n)] (fun _:Unit=>.int .i64 (n:Nat)) (fun _=>[DiskP d (Dsk.blank n)]):=size_ct (W:=W) (p:=d) (D:=Dsk.blank n)
 have cof:Ct Tryz.prog W 44 [.pointer (some ⟨d,0,none⟩)] [DiskP d (Dsk.blank n)] (fun _:Unit=>.bool false) (fun _=>[DiskP d (Dsk.blank n)]):=off_ct (W:=W) (p:=d) (D:=Dsk.blank n)
 have cov:=over_ct (W:=W) (d:=d) (D:=Dsk.blank n) h1 h2 rfl
 have cap:=fun q=>bapply_ct (W:=W) (N:=[]) (ta:=none) (r:=[]) (p:=q) (tb:=0) (TbOk.nil []) A oa oc ops hL (by simp;omega)
 rw [hr] at cap
 have csi:=fun (q:Nat) (N:List Nd) (a:Option Addr) (b:Int) (hT:TbOk N a r)=>ssize_ct (W:=W) (N:=N) (p:=q) (b:=b) hT hmax
 have cro:=fun s q=>sroom_ct (W:=W) (s:=s) (d:=d) (q:=q) (n:=n) 0 none (Dsk.blank n).life false h2
 obtain ⟨D0,hD0⟩:∃ D0,D0=Dsk.blank n:=⟨_,rfl⟩
 have q1:decide ((n:Int)<64)=false:=decide_eq_false (by omega)
 have q2:decide (((234*layA n:Nat):Int)<((zAj r).length:Nat))=true:=decide_eq_true (by omega)
 simp only [← hD0] at cr csz cof cov cro ⊢
 clear hD0 t1 t2 t3 hb
 refine Ct.enter Tryz.func15 rfl Tryz.ntmps15 (by simp) (fun R=>?_)
 refine KJ.arNil ?_
 repeat' (first|(refine zAd ?_;first|(refine zAa xE (cro _ _) xP rfl (fun _=>?_))|(refine zAa xE (csi _ _ _ _ hT) xP rfl (fun _=>?_))|(refine zAa xE (cap _) xP rfl (fun x=>?_);obtain ⟨⟨N,a,b⟩,gN,hT⟩:=x;dsimp only at gN hT ⊢)|(refine zAa xE cov xP rfl (fun x=>?_);obtain ⟨s,q⟩:=x)|(refine zAa xE cr xP rfl (fun _=>?_))|(refine zAa xE cof xP rfl (fun _=>?_))|(refine zAa xE csz xP rfl (fun _=>?_)))|(refine zAh ?_;refine zAc (zAp rfl e17) ?_)|(refine zAs ?_;refine zAc (zAe rfl rfl q1) ?_)|(refine zBa ?_;refine zAc (zAg rfl rfl q2) ?_)|refine xst ?_|(refine xsa ?_;intro _)|(refine xsb ?_ ?_ <;>intro _<;>try (exfalso;omega))|refine xsc ?_|fail)
 all_goals (exact xdn ())
end
end Go.Proofs.YtnkhohfbijkohaaGreatDoor
namespace Go.Proofs.YtnkhohfbijkohaaGreatDoor
open Go Go.RowKit
theorem RdyS.slot0 {n v:Nat} {D:Dsk} (h:RdyS n v D) (h1:64≤n) (hv:1≤v):slotE D 0=0:=by
 obtain ⟨l,hl⟩:=h.slot
 have hn:=h.nn
 have ht:=Holds.told h.rest (a:=0) (by omega) hl
 rw [if_neg (by omega)] at ht
 exact ht.1
section
variable {W:World} {F:Nat→Addr} {r:Rows} {d n:Nat}
theorem snewX_ct (hE:ErrsOn L16 W F) (hE8:ErrsOn L8 W F) (hN:NibAt W) (h1:64≤n) (h2:n≤65536) (hr:RisR r) (hsn:(zAj r).length≤234*layA n) :
 Ct Tryz.prog W 37 [.pointer (some ⟨d,0,none⟩)] [DiskP d (fmtD n r)] (fun y:Nat × {x:StH//StI n 2 r x∧x.d=d∧x.v=2∧x.used=0∧x.D=fldD (fmtD n r) n 2 r}=>.tuple #[.pointer (some ⟨y.1,0,none⟩),.nilIface]) (fun y=>stL y.1 n y.2.1):=by
 obtain ⟨g1,g2,g3,g4,g5,g6,g7,g8⟩:=(Ready.blank h1 (show n≤65536 by omega)).fold r h1 (by omega) (by omega) hsn
 obtain ⟨k1,k2,k3,k4,k5,k6,k7,k8⟩:=g3.ready.fold r h1 (by omega) (by omega) hsn
 have hc:=sopenR_ct (W:=W) (F:=F) (d:=d) (D:=fmtD n r) hE hE8 hN h1 (by omega) hr hsn 1 ⟨by omega,by omega⟩ g3
 have e:(fldD (fmtD n r) n (1+1) r).life=(fmtD n r).life:=k4
 refine hc.to (fun x=>(x.1,⟨⟨d,x.2.1.1,x.2.2,2,0,fldD (fmtD n r) n (1+1) r,x.2.1.2.1.1,x.2.1.2.1.2.1,x.2.1.2.1.2.2⟩,⟨k3.s,by dsimp only;omega,by dsimp only;omega,by dsimp only;omega,x.2.1.2.2.2,hsn⟩,rfl,rfl,rfl,rfl⟩)) (fun _=>rfl) (fun x R g q=>?_)
 unfold stL
 dsimp only
 rw [e]
 rw [e] at q
 exact q
end
end Go.Proofs.YtnkhohfbijkohaaGreatDoor
