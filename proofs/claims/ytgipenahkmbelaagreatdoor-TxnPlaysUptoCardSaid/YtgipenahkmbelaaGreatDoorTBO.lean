/-
  Slo, Slo2, Slo3, Rt.
-/
import Derived.Test.YtgipenahkmbelaaGreatDoorTBK
set_option maxHeartbeats 64000000
namespace Go.Proofs.YtgipenahkmbelaaGreatDoor
open Go Go.RowKit
abbrev plTBO0:Pl:=(.op 0 (.op 1 (.op 2 (.op 3 .nil))))
section
variable {W:World} {E:Nat→Addr} {p:Nat} {D:Dsk}
def Dsk.roomB (D:Dsk) (at_:Int):Bool:=decide (0≤at_∧at_≤(D.n:Int)-2)
set_option maxRecDepth 100000 in
theorem room_ct (at_:Int) (hn:D.n≤65536):Ct Tryz.prog W 88 [.pointer (some ⟨p,0,none⟩),.int .i64 at_] [DiskP p D] (fun _:Unit=>.bool (D.roomB at_)) (fun _=>[DiskP p D]):=by
 have c1:Ct Tryz.prog W 59 [.pointer (some ⟨p,0,none⟩)] [DiskP p D] (fun _:Unit=>.int .i64 D.n) (fun _=>[DiskP p D]):=size_ct
 by_cases h:0≤at_
 ·have hq:decide ((0:Int)≤at_)=true:=decide_eq_true h
  have hr:decide (at_≤(D.n:Int)-2)=D.roomB at_:=by unfold Dsk.roomB;simp [h]
  refine Ct.enter Tryz.func88 rfl Tryz.ntmps88 (by simp) (fun R=>?_)
  repeat' (first|(refine zAd ?_;refine zAc xE c1 xP rfl (fun _=>?_))|(refine ek_leq ?_;refine zAb (Ev_leqI_q rfl rfl hr) ?_)|(refine ek_geq ?_;refine zAb (zBk rfl rfl hq) ?_)|refine xst ?_|(refine xsa ?_;intro _)|(refine xsb ?_ ?_ <;>intro _<;>try (exfalso;omega))|refine xsc ?_|fail)
  all_goals (exact xdn ())
 ·have hq:decide ((0:Int)≤at_)=false:=decide_eq_false h
  have hr:D.roomB at_=false:=by unfold Dsk.roomB;simp [h]
  rw [hr]
  refine Ct.enter Tryz.func88 rfl Tryz.ntmps88 (by simp) (fun R=>?_)
  repeat' (first|(refine ek_geq ?_;refine zAb (zBk rfl rfl hq) ?_)|refine xst ?_|(refine xsa ?_;intro _)|(refine xsb ?_ ?_ <;>intro _<;>try (exfalso;omega))|refine xsc ?_|fail)
  all_goals (exact xdn ())
def countO (raw:List UInt8) (k:Int):Option (Int × List UInt8):=
 if raw.length≠256 then none else if getB raw 8≠getB (raw.drop 248) 8 then none else if getB raw 8<1 then none else if 1099511627776<getB raw 8 then none else
  if getB raw 8 % 2≠k then none else (openS (getB raw 8) raw).map fun v=>(getB raw 8,v)
def zCd (raw:List UInt8) (k:Int):Int:=((countO raw k).map (·.1)).getD 0
def countS (raw:List UInt8) (k:Int):List UInt8:=((countO raw k).map (·.2)).getD []
set_option maxRecDepth 100000 in
theorem count_ct (hE:ErrsOn L8 W E) (hN:NibAt W) (raw:List UInt8) (k:Int):Ct Tryz.prog W 90 [strV raw,.int .i64 k] [] (fun _:Unit=>.tuple #[.int .i64 (zCd raw k),strV (countS raw k)]) (fun _=>[]):=by
 by_cases h1:raw.length=256
 rotate_left
 ·have c1:=ends_bad hE raw h1
  have hne:errV E 7≠.nilIface:=by simp [errV]
  rw [show zCd raw k=0 by simp [zCd,countO,h1],show countS raw k=[] by simp [countS,countO,h1]]
  refine Ct.enter Tryz.func90 rfl Tryz.ntmps90 (by simp) (fun R=>?_)
  repeat' (first|(refine zAd ?_;refine zAc xE c1 xP rfl (fun _=>?_))|refine xst ?_|(refine xsa ?_;intro _)|(refine xsb ?_ ?_ <;>intro _<;>try (exfalso;omega))|refine xsc ?_|fail)
  all_goals (exact xdn ())
 have c1:=ends_ok (W:=W) raw h1
 have co:=open_ct hN (getB raw 8) raw
 have hO:countO raw k=if getB raw 8≠getB (raw.drop 248) 8 then none else if getB raw 8<1 then none else if 1099511627776<getB raw 8 then none else if getB raw 8 % 2≠k then none else (openS (getB raw 8) raw).map fun v=>(getB raw 8,v):=by
  unfold countO;rw [if_neg (by simpa using h1)]
 unfold zCd countS
 rw [hO]
 clear hO
 obtain ⟨a,ha⟩:∃ a,a=getB raw 8:=⟨_,rfl⟩
 obtain ⟨b,hb⟩:∃ b,b=getB (raw.drop 248) 8:=⟨_,rfl⟩
 obtain ⟨o,ho⟩:∃ o,o=openS (getB raw 8) raw:=⟨_,rfl⟩
 rw [← ho] at co ⊢
 rw [← ha] at co ⊢
 rw [← ha,← hb] at c1
 rw [← hb]
 clear ha hb ho
 by_cases h2:a=b
 rotate_left
 ·rw [if_pos h2]
  refine Ct.enter Tryz.func90 rfl Tryz.ntmps90 (by simp) (fun R=>?_)
  repeat' (first|(refine zAd ?_;refine zAc xE c1 xP rfl (fun _=>?_))|(refine zBz ?_;refine zAb (Ev_neqI_t rfl rfl h2) ?_)|refine xst ?_|(refine xsa ?_;intro _)|(refine xsb ?_ ?_ <;>intro _<;>try (exfalso;omega))|refine xsc ?_|fail)
  all_goals (exact xdn ())
 rw [if_neg (by simpa using h2)]
 by_cases h3:a<1
 ·rw [if_pos h3]
  have q3:decide (a<1)=true:=decide_eq_true h3
  refine Ct.enter Tryz.func90 rfl Tryz.ntmps90 (by simp) (fun R=>?_)
  repeat' (first|(refine zAd ?_;refine zAc xE c1 xP rfl (fun _=>?_))|(refine zBz ?_;refine zAb (zCh rfl rfl h2) ?_)|(refine zAq ?_;refine zAb (zAe rfl rfl q3) ?_)|refine xst ?_|(refine xsa ?_;intro _)|(refine xsb ?_ ?_ <;>intro _<;>try (exfalso;omega))|refine xsc ?_|fail)
  all_goals (exact xdn ())
 rw [if_neg h3]
 have q3:decide (a<1)=false:=decide_eq_false h3
 by_cases h4:1099511627776<a
 ·rw [if_pos h4]
  have q4:decide (1099511627776<a)=true:=decide_eq_true h4
  refine Ct.enter Tryz.func90 rfl Tryz.ntmps90 (by simp) (fun R=>?_)
  repeat' (first|(refine zAd ?_;refine zAc xE c1 xP rfl (fun _=>?_))|(refine zBz ?_;refine zAb (zCh rfl rfl h2) ?_)|(refine zAq ?_;refine zAb (zAe rfl rfl q3) ?_)|(refine zBf ?_;refine zAb (zAk rfl rfl q4) ?_)|refine xst ?_|(refine xsa ?_;intro _)|(refine xsb ?_ ?_ <;>intro _<;>try (exfalso;omega))|refine xsc ?_|fail)
  all_goals (exact xdn ())
 rw [if_neg h4]
 have q4:decide (1099511627776<a)=false:=decide_eq_false h4
 by_cases h5:a % 2=k
 rotate_left
 ·rw [if_pos h5]
  refine Ct.enter Tryz.func90 rfl Tryz.ntmps90 (by simp) (fun R=>?_)
  repeat' (first|(refine zAd ?_;refine zAc xE c1 xP rfl (fun _=>?_))|(refine zBu ?_;refine zAb (Ev_convI64 rfl (by omega)) ?_)|(refine ek_rem ?_;refine zAb (Ev_remI rfl rfl (by omega)) ?_)|(refine zBz ?_;first|refine zAb (Ev_neqI_t rfl rfl h5) ?_|refine zAb (zCh rfl rfl h2) ?_)|(refine zAq ?_;refine zAb (zAe rfl rfl q3) ?_)|(refine zBf ?_;refine zAb (zAk rfl rfl q4) ?_)|refine xst ?_|(refine xsa ?_;intro _)|(refine xsb ?_ ?_ <;>intro _<;>try (exfalso;omega))|refine xsc ?_|fail)
  all_goals (exact xdn ())
 rw [if_neg (by simpa using h5)]
 cases o with
 |none=>
  refine Ct.enter Tryz.func90 rfl Tryz.ntmps90 (by simp) (fun R=>?_)
  repeat' (first|(refine zAd ?_;first|(refine zAc xE co xP rfl (fun _=>?_))|(refine zAc xE c1 xP rfl (fun _=>?_)))|(refine zBu ?_;refine zAb (Ev_convI64 rfl (by omega)) ?_)|(refine ek_rem ?_;refine zAb (Ev_remI rfl rfl (by omega)) ?_)|(refine zBz ?_;first|refine zAb (zCh rfl rfl h5) ?_|refine zAb (zCh rfl rfl h2) ?_)|(refine zAq ?_;refine zAb (zAe rfl rfl q3) ?_)|(refine zBf ?_;refine zAb (zAk rfl rfl q4) ?_)|refine xst ?_|(refine xsa ?_;intro _)|(refine xsb ?_ ?_ <;>intro _<;>try (exfalso;omega))|refine xsc ?_|fail)
  all_goals (exact xdn ())
 |some v=>
  refine Ct.enter Tryz.func90 rfl Tryz.ntmps90 (by simp) (fun R=>?_)
  repeat' (first|(refine zAd ?_;first|(refine zAc xE co xP rfl (fun _=>?_))|(refine zAc xE c1 xP rfl (fun _=>?_)))|(refine zBu ?_;refine zAb (Ev_convI64 rfl (by omega)) ?_)|(refine ek_rem ?_;refine zAb (Ev_remI rfl rfl (by omega)) ?_)|(refine zBz ?_;first|refine zAb (zCh rfl rfl h5) ?_|refine zAb (zCh rfl rfl h2) ?_)|(refine zAq ?_;refine zAb (zAe rfl rfl q3) ?_)|(refine zBf ?_;refine zAb (zAk rfl rfl q4) ?_)|refine xst ?_|(refine xsa ?_;intro _)|(refine xsb ?_ ?_ <;>intro _<;>try (exfalso;omega))|refine xsc ?_|fail)
  all_goals (exact xdn ())
end
end Go.Proofs.YtgipenahkmbelaaGreatDoor
namespace Go.Proofs.YtgipenahkmbelaaGreatDoor
open Go Go.RowKit
def slotVer (D:Dsk) (a:Nat):Nat→Int
 |0=>0
 |k+1=>if slotVer D a k<zCd (D.rd (a+k)) k then zCd (D.rd (a+k)) k else slotVer D a k
def slotVal (D:Dsk) (a:Nat):Nat→List UInt8
 |0=>[]
 |k+1=>if slotVer D a k<zCd (D.rd (a+k)) k then countS (D.rd (a+k)) k else slotVal D a k
def slotE (D:Dsk) (at_:Int):Nat:=if D.roomB at_=false then 6 else if D.off then 12 else if slotVer D at_.toNat 2=0 then 14 else 0
def slotS (D:Dsk) (at_:Int):List UInt8:=if slotE D at_=0 then slotVal D at_.toNat 2 else []
def slotN (D:Dsk) (at_:Int):Int:=if slotE D at_=0 then slotVer D at_.toNat 2 else 0
theorem countV_bounds (raw:List UInt8) (k:Int):0≤zCd raw k∧zCd raw k≤1099511627776:=by
 unfold zCd countO
 split
 ·simp
 split
 ·simp
 split
 ·simp
 split
 ·simp
 split
 ·simp
 cases openS (getB raw 8) raw with
 |none=>simp
 |some v=>simp;omega
theorem slotVer_bounds (D:Dsk) (a k:Nat):0≤slotVer D a k∧slotVer D a k≤1099511627776:=by
 induction k with
 |zero=>simp [slotVer]
 |succ k ih=>
  have:=countV_bounds (D.rd (a+k)) k
  unfold slotVer
  split
  ·exact this
  ·exact ih
section
variable {W:World} {E:Nat→Addr} {p:Nat} {D:Dsk}
set_option maxRecDepth 100000 in
theorem sread_out (hE:ErrsOn L8 W E) (hn:D.n≤65536) (at_:Int) (h:D.roomB at_=false):Ct Tryz.prog W 61 [.pointer (some ⟨p,0,none⟩),.int .i64 at_] [DiskP p D] (fun _:Unit=>.tuple #[strV [],.int .i64 0,errV E 6]) (fun _=>[DiskP p D]):=by
 have e6:W.cell? ⟨1,0,none⟩=some (errV E 6):=hE.at_ 6 (by decide)
 have c1:Ct Tryz.prog W 88 [.pointer (some ⟨p,0,none⟩),.int .i64 at_] [DiskP p D] (fun _:Unit=>.bool false) (fun _=>[DiskP p D]):=(room_ct at_ hn).val fun _=>by rw [h]
 refine Ct.enter Tryz.func61 rfl Tryz.ntmps61 (by simp) (fun R=>?_)
 repeat' (first|(refine zAd ?_;refine zAc xE c1 xP rfl (fun _=>?_))|(refine zAm ?_;refine zAb (zAt rfl e6) ?_)|refine xst ?_|(refine xsa ?_;intro _)|(refine xsb ?_ ?_ <;>intro _<;>try (exfalso;omega))|refine xsc ?_|(refine zAa (id:=2) plTBO0 (by kernel_rfl) (by kernel_rfl) ?_)|(refine zAa (id:=15) plTBO0 (by kernel_rfl) (by kernel_rfl) ?_)|refine zAp ?_ ?_|refine zAn rfl rfl rfl rfl rfl ?_ ?_|refine zAg ?_ ?_|exact Rech.nil|fail)
 all_goals (exact xdn ())
set_option maxRecDepth 100000 in
theorem sread_off (hE:ErrsOn L8 W E) (hn:D.n≤65536) (at_:Int) (h:D.roomB at_=true) (ho:D.off=true):Ct Tryz.prog W 61 [.pointer (some ⟨p,0,none⟩),.int .i64 at_] [DiskP p D] (fun _:Unit=>.tuple #[strV [],.int .i64 0,errV E 12]) (fun _=>[DiskP p D]):=by
 have c1:Ct Tryz.prog W 88 [.pointer (some ⟨p,0,none⟩),.int .i64 at_] [DiskP p D] (fun _:Unit=>.bool true) (fun _=>[DiskP p D]):=(room_ct at_ hn).val fun _=>by rw [h]
 have hat:0≤at_∧at_≤(D.n:Int)-2:=by unfold Dsk.roomB at h;simpa using h
 have c2:Ct Tryz.prog W 89 [.pointer (some ⟨p,0,none⟩),.int .i64 (at_+0)] [DiskP p D] (fun _:Unit=>.tuple #[strV [],errV E 12]) (fun _=>[DiskP p D]):=(read_ct hE _).val fun _=>by simp [Dsk.readS,Dsk.readE,ho]
 refine Ct.enter Tryz.func61 rfl Tryz.ntmps61 (by simp) (fun R=>?_)
 repeat' (first|(refine zAd ?_;refine zAc xE c1 xP rfl (fun _=>?_))|refine xst ?_|(refine xsa ?_;intro _)|(refine xsb ?_ ?_ <;>intro _<;>try (exfalso;omega))|refine xsc ?_|(refine zAa (id:=2) plTBO0 (by kernel_rfl) (by kernel_rfl) ?_)|(refine zAa (id:=15) plTBO0 (by kernel_rfl) (by kernel_rfl) ?_)|refine zAp ?_ ?_|refine zAn rfl rfl rfl rfl rfl ?_ ?_|refine zAg ?_ ?_|exact Rech.nil|fail)
 refine zBv (fun _:Unit=>[(0,.pointer (some ⟨p,0,none⟩)),(1,.int .i64 at_),(19,.int .i64 0)]) (fun _=>[DiskP p D]++R) (fun _=>0) () xB (xN) (fun _=>?_)
 repeat' (first|(refine zAd ?_;refine zAc xE c2 xP rfl (fun _=>?_))|refine xst ?_|(refine xsa ?_;intro _)|(refine xsb ?_ ?_ <;>intro _<;>try (exfalso;omega))|refine xsc ?_|(refine zAa (id:=2) plTBO0 (by kernel_rfl) (by kernel_rfl) ?_)|(refine zAa (id:=15) plTBO0 (by kernel_rfl) (by kernel_rfl) ?_)|refine zAp ?_ ?_|refine zAn rfl rfl rfl rfl rfl ?_ ?_|refine zAg ?_ ?_|exact Rech.nil|fail)
 all_goals (exact xdn ())
set_option maxRecDepth 100000 in
theorem sread_on (hE:ErrsOn L8 W E) (hN:NibAt W) (hn:D.n≤65536) (at_:Int) (h:D.roomB at_=true) (ho:D.off=false) :
 Ct Tryz.prog W 61 [.pointer (some ⟨p,0,none⟩),.int .i64 at_] [DiskP p D] (fun _:Unit=>.tuple #[strV (slotS D at_),.int .i64 (slotN D at_),errV E (slotE D at_)]) (fun _=>[DiskP p D]):=by
 have c1:Ct Tryz.prog W 88 [.pointer (some ⟨p,0,none⟩),.int .i64 at_] [DiskP p D] (fun _:Unit=>.bool true) (fun _=>[DiskP p D]):=(room_ct at_ hn).val fun _=>by rw [h]
 have e14:W.cell? ⟨6,0,none⟩=some (errV E 14):=hE.at_ 14 (by decide)
 have hat:0≤at_∧at_≤(D.n:Int)-2:=by unfold Dsk.roomB at h;simpa using h
 have hE1:slotE D at_=if slotVer D at_.toNat 2=0 then 14 else 0:=by unfold slotE;rw [if_neg (by rw [h];simp),if_neg (by rw [ho];simp)]
 have hvb:=slotVer_bounds D at_.toNat
 have hcr:∀ k:Nat,k<2→Ct Tryz.prog W 89 [.pointer (some ⟨p,0,none⟩),.int .i64 (at_+(k:Nat))] [DiskP p D] (fun _:Unit=>.tuple #[strV (D.rd (at_.toNat+k)),errV E 0]) (fun _=>[DiskP p D]):=fun k hk=>(read_ct hE _).val fun _=>by
  have hh:D.has (at_+(k:Nat))=true:=by unfold Dsk.has;exact decide_eq_true (by omega)
  have:(at_+(k:Nat)).toNat=at_.toNat+k:=by omega
  simp [Dsk.readS,Dsk.readE,ho,hh,this]
 have hV0:slotVer D at_.toNat 0=0:=rfl
 have hS0:slotVal D at_.toNat 0=[]:=rfl
 have hVn:∀ k,slotVer D at_.toNat (k+1)=if slotVer D at_.toNat k<zCd (D.rd (at_.toNat+k)) k then zCd (D.rd (at_.toNat+k)) k else slotVer D at_.toNat k:=fun _=>rfl
 have hSn:∀ k,slotVal D at_.toNat (k+1)=if slotVer D at_.toNat k<zCd (D.rd (at_.toNat+k)) k then countS (D.rd (at_.toNat+k)) k else slotVal D at_.toNat k:=fun _=>rfl
 unfold slotS slotN
 rw [hE1]
 obtain ⟨V,hV⟩:∃ V,V=slotVer D at_.toNat:=⟨_,rfl⟩
 obtain ⟨S,hS⟩:∃ S,S=slotVal D at_.toNat:=⟨_,rfl⟩
 simp only [← hV,← hS] at hV0 hS0 hVn hSn hvb ⊢
 clear hV hS hE1
 refine Ct.enter Tryz.func61 rfl Tryz.ntmps61 (by simp) (fun R=>?_)
 repeat' (first|(refine zAd ?_;refine zAc xE c1 xP rfl (fun _=>?_))|refine xst ?_|(refine xsa ?_;intro _)|(refine xsb ?_ ?_ <;>intro _<;>try (exfalso;omega))|refine xsc ?_|(refine zAa (id:=2) plTBO0 (by kernel_rfl) (by kernel_rfl) ?_)|(refine zAa (id:=15) plTBO0 (by kernel_rfl) (by kernel_rfl) ?_)|refine zAp ?_ ?_|refine zAn rfl rfl rfl rfl rfl ?_ ?_|refine zAg ?_ ?_|exact Rech.nil|fail)
 refine zBv (fun i:{k:Nat//k≤2}=>[(0,.pointer (some ⟨p,0,none⟩)),(1,.int .i64 at_),(7,.int .i64 (V i.1)),(8,strV (S i.1)),(19,.int .i64 (i.1:Nat))]) (fun _=>[DiskP p D]++R) (fun i=>2-i.1) ⟨0,by omega⟩
  (Subs.cons rfl (Subs.cons rfl (Subs.cons (show _=some (Value.int .i64 (V 0)) from by rw [hV0];rfl) (Subs.cons (show _=some (strV (S 0)) from by rw [hS0];rfl) xB)))) (xN) (fun ⟨k,hk⟩=>?_)
 dsimp only
 by_cases hlt:k<2
 ·have cr:=hcr k hlt
  have cc:=count_ct hE hN (D.rd (at_.toNat+k)) k
  by_cases hgt:V k<zCd (D.rd (at_.toNat+k)) k
  ·have hq:decide (V k<zCd (D.rd (at_.toNat+k)) k)=true:=decide_eq_true hgt
   have h1:=hVn k
   have h2:=hSn k
   rw [if_pos hgt] at h1 h2
   repeat' (first|(refine zAd ?_;first|(refine zAc xE cc xP rfl (fun _=>?_))|(refine zAc xE cr xP rfl (fun _=>?_)))|(refine zBf ?_;refine zAb (zAk rfl rfl hq) ?_)|refine xst ?_|(refine xsa ?_;intro _)|(refine xsb ?_ ?_ <;>intro _<;>try (exfalso;omega))|refine xsc ?_|(refine zAa (id:=2) plTBO0 (by kernel_rfl) (by kernel_rfl) ?_)|(refine zAa (id:=15) plTBO0 (by kernel_rfl) (by kernel_rfl) ?_)|refine zAp ?_ ?_|refine zAn rfl rfl rfl rfl rfl ?_ ?_|refine zAg ?_ ?_|exact Rech.nil|fail)
   refine zAv ⟨k+1,by omega⟩ (by show 2-(k+1)<2-k;omega) ?_ (xN)
   dsimp only
   rw [h1,h2]
   exact xB
  ·have hq:decide (V k<zCd (D.rd (at_.toNat+k)) k)=false:=decide_eq_false hgt
   have h1:=hVn k
   have h2:=hSn k
   rw [if_neg hgt] at h1 h2
   repeat' (first|(refine zAd ?_;first|(refine zAc xE cc xP rfl (fun _=>?_))|(refine zAc xE cr xP rfl (fun _=>?_)))|(refine zBf ?_;refine zAb (zAk rfl rfl hq) ?_)|refine xst ?_|(refine xsa ?_;intro _)|(refine xsb ?_ ?_ <;>intro _<;>try (exfalso;omega))|refine xsc ?_|(refine zAa (id:=2) plTBO0 (by kernel_rfl) (by kernel_rfl) ?_)|(refine zAa (id:=15) plTBO0 (by kernel_rfl) (by kernel_rfl) ?_)|refine zAp ?_ ?_|refine zAn rfl rfl rfl rfl rfl ?_ ?_|refine zAg ?_ ?_|exact Rech.nil|fail)
   refine zAv ⟨k+1,by omega⟩ (by show 2-(k+1)<2-k;omega) ?_ (xN)
   dsimp only
   rw [h1,h2]
   exact xB
 ·have hk2:k=2:=by omega
  subst hk2
  by_cases hz:V 2=0
  ·rw [if_pos hz,if_neg (by omega),if_neg (by omega)]
   repeat' (first|(refine zAm ?_;refine zAb (zAt rfl e14) ?_)|(refine zBg ?_;refine zAb (Ev_eqlI_t rfl rfl hz) ?_)|refine xst ?_|(refine xsa ?_;intro _)|(refine xsb ?_ ?_ <;>intro _<;>try (exfalso;omega))|refine xsc ?_|(refine zAa (id:=2) plTBO0 (by kernel_rfl) (by kernel_rfl) ?_)|(refine zAa (id:=15) plTBO0 (by kernel_rfl) (by kernel_rfl) ?_)|refine zAp ?_ ?_|refine zAn rfl rfl rfl rfl rfl ?_ ?_|refine zAg ?_ ?_|exact Rech.nil|fail)
   all_goals (exact xdn ())
  ·rw [if_neg hz,if_pos rfl,if_pos rfl]
   repeat' (first|(refine zBg ?_;refine zAb (Ev_eqlI_f rfl rfl hz) ?_)|refine xst ?_|(refine xsa ?_;intro _)|(refine xsb ?_ ?_ <;>intro _<;>try (exfalso;omega))|refine xsc ?_|(refine zAa (id:=2) plTBO0 (by kernel_rfl) (by kernel_rfl) ?_)|(refine zAa (id:=15) plTBO0 (by kernel_rfl) (by kernel_rfl) ?_)|refine zAp ?_ ?_|refine zAn rfl rfl rfl rfl rfl ?_ ?_|refine zAg ?_ ?_|exact Rech.nil|fail)
   all_goals (exact xdn ())
theorem sread_ct (hE:ErrsOn L8 W E) (hN:NibAt W) (hn:D.n≤65536) (at_:Int) :
 Ct Tryz.prog W 61 [.pointer (some ⟨p,0,none⟩),.int .i64 at_] [DiskP p D] (fun _:Unit=>.tuple #[strV (slotS D at_),.int .i64 (slotN D at_),errV E (slotE D at_)]) (fun _=>[DiskP p D]):=by
 cases h:D.roomB at_ with
 |false=>exact (sread_out hE hn at_ h).val fun _=>by simp [slotS,slotN,slotE,h]
 |true=>
  cases ho:D.off with
  |true=>exact (sread_off hE hn at_ h ho).val fun _=>by simp [slotS,slotN,slotE,h,ho]
  |false=>exact sread_on hE hN hn at_ h ho
end
end Go.Proofs.YtgipenahkmbelaaGreatDoor
namespace Go.Proofs.YtgipenahkmbelaaGreatDoor
open Go Go.RowKit
def slotMay (D:Dsk) (at_ v:Int):Bool:=D.roomB at_ && decide (1≤v) && decide (v≤1099511627776)
def slotW1 (D:Dsk) (at_ v:Int) (s:List UInt8):Dsk:=D.writeD (at_+v % 2) (zBs v s)
def slotWE (D:Dsk) (at_ v:Int) (s:List UInt8):Nat:=
 if slotMay D at_ v=false then 6 else if 234<s.length then 3 else if D.writeE (at_+v % 2) (zBs v s)≠0 then D.writeE (at_+v % 2) (zBs v s) else (slotW1 D at_ v s).flushE
def slotWD (D:Dsk) (at_ v:Int) (s:List UInt8):Dsk:=
 if slotMay D at_ v=false then D else if 234<s.length then D else if D.writeE (at_+v % 2) (zBs v s)≠0 then slotW1 D at_ v s else (slotW1 D at_ v s).flushD
theorem writeD_und (D:Dsk) (i:Int) (s:List UInt8):(D.writeD i s).und.length≤D.und.length+1:=by
 unfold Dsk.writeD
 split
 ·omega
 split
 ·split
  ·dsimp only
   split
   ·rw [Dsk.gone_und];simp
   ·show (Dsk.gone _).und.length≤_;rw [Dsk.gone_und];simp
  ·omega
 ·omega
theorem errV_ne {E:Nat→Addr} {k:Nat} (h:k≠0):∃ a,errV E k=.iface 256 (.pointer (some a)):=⟨E k,by unfold errV;rw [if_neg h]⟩
section
variable {W:World} {E:Nat→Addr} {p:Nat} {D:Dsk}
theorem swrite_bad (hE:ErrsOn L8 W E) (hn:D.n≤65536) (at_ v:Int) (s:List UInt8) (h:slotMay D at_ v=false):Ct Tryz.prog W 99 [.pointer (some ⟨p,0,none⟩),.int .i64 at_,.int .i64 v,strV s] [DiskP p D] (fun _:Unit=>errV E 6) (fun _=>[DiskP p D]):=by
 have e6:W.cell? ⟨1,0,none⟩=some (errV E 6):=hE.at_ 6 (by decide)
 have c1:=room_ct (W:=W) (p:=p) at_ hn
 cases hr:D.roomB at_ with
 |false=>
  rw [hr] at c1
  refine Ct.enter Tryz.func99 rfl Tryz.ntmps99 (by simp) (fun R=>?_)
  repeat' (first|(refine zAd ?_;refine zAc xE c1 xP rfl (fun _=>?_))|(refine zAm ?_;refine zAb (zAt rfl e6) ?_)|refine xst ?_|(refine xsa ?_;intro _)|(refine xsb ?_ ?_ <;>intro _<;>try (exfalso;omega))|refine xsc ?_|fail)
  all_goals (exact xdn ())
 |true=>
  rw [hr] at c1
  by_cases hv:v<1
  ·have q1:decide (v<1)=true:=decide_eq_true hv
   refine Ct.enter Tryz.func99 rfl Tryz.ntmps99 (by simp) (fun R=>?_)
   repeat' (first|(refine zAd ?_;refine zAc xE c1 xP rfl (fun _=>?_))|(refine zAm ?_;refine zAb (zAt rfl e6) ?_)|(refine zAq ?_;refine zAb (zAe rfl rfl q1) ?_)|refine xst ?_|(refine xsa ?_;intro _)|(refine xsb ?_ ?_ <;>intro _<;>try (exfalso;omega))|refine xsc ?_|fail)
   all_goals (exact xdn ())
  ·have q1:decide (v<1)=false:=decide_eq_false hv
   have q2:decide (1099511627776<v)=true:=by
    refine decide_eq_true ?_
    unfold slotMay at h
    rw [hr,decide_eq_true (show 1≤v by omega)] at h
    simp at h
    omega
   refine Ct.enter Tryz.func99 rfl Tryz.ntmps99 (by simp) (fun R=>?_)
   repeat' (first|(refine zAd ?_;refine zAc xE c1 xP rfl (fun _=>?_))|(refine zAm ?_;refine zAb (zAt rfl e6) ?_)|(refine zAq ?_;refine zAb (zAe rfl rfl q1) ?_)|(refine zBf ?_;refine zAb (zAk rfl rfl q2) ?_)|refine xst ?_|(refine xsa ?_;intro _)|(refine xsb ?_ ?_ <;>intro _<;>try (exfalso;omega))|refine xsc ?_|fail)
   all_goals (exact xdn ())
set_option maxRecDepth 100000 in
theorem swrite_may (hE:ErrsOn L8 W E) (hN:NibAt W) (hn:D.n≤65536) (hul:D.und.length<1073741823) (at_ v:Int) (s:List UInt8) (h:slotMay D at_ v=true) :
 Ct Tryz.prog W 99 [.pointer (some ⟨p,0,none⟩),.int .i64 at_,.int .i64 v,strV s] [DiskP p D] (fun _:Unit=>errV E (slotWE D at_ v s)) (fun _=>[DiskP p (slotWD D at_ v s)]):=by
 have hm:D.roomB at_=true∧1≤v∧v≤1099511627776:=by
  unfold slotMay at h;simp at h;exact ⟨h.1.1,h.1.2,h.2⟩
 have hat:0≤at_∧at_≤(D.n:Int)-2:=by have:=hm.1;unfold Dsk.roomB at this;simpa using this
 have c1:=room_ct (W:=W) (p:=p) at_ hn
 rw [hm.1] at c1
 have q1:decide (v<1)=false:=decide_eq_false (by omega)
 have q2:decide (1099511627776<v)=false:=decide_eq_false (by omega)
 have hw:IntKind.u64.wrap v=v:=by show v % 18446744073709551616=v;omega
 have hv0:v≠0:=by omega
 unfold slotWE slotWD
 have hb:¬ (slotMay D at_ v=false):=by rw [h];simp
 rw [if_neg hb,if_neg hb]
 by_cases hl:234<s.length
 ·rw [if_pos hl,if_pos hl]
  have c2:=seal_long hE v s hv0 hl
  refine Ct.enter Tryz.func99 rfl Tryz.ntmps99 (by simp) (fun R=>?_)
  repeat' (first|(refine zAd ?_;first|(refine zAc xE c2 xP rfl (fun _=>?_))|(refine zAc xE c1 xP rfl (fun _=>?_)))|(refine zBu ?_;refine zAb (zAw rfl hw) ?_)|(refine zAq ?_;refine zAb (zAe rfl rfl q1) ?_)|(refine zBf ?_;refine zAb (zAk rfl rfl q2) ?_)|refine xst ?_|(refine xsa ?_;intro _)|(refine xsb ?_ ?_ <;>intro _<;>try (exfalso;omega))|refine xsc ?_|fail)
  all_goals (exact xdn ())
 rw [if_neg hl,if_neg hl]
 have c2:=seal_ok hN v s hv0 (by omega)
 have hrb:at_+v % 2≤9223372036854775807∧-9223372036854775808≤at_+v % 2:=by omega
 have c3:Ct Tryz.prog W 135 [.pointer (some ⟨p,0,none⟩),.int .i64 (at_+v % 2),strV (zBs v s)] [DiskP p D] (fun _:Unit=>errV E (D.writeE (at_+v % 2) (zBs v s))) (fun _=>[DiskP p (slotW1 D at_ v s)]):=write_ct hE _ _ (by omega)
 obtain ⟨D1,hD1⟩:∃ D1,D1=slotW1 D at_ v s:=⟨_,rfl⟩
 have hu1:D1.und.length<1073741824:=by
  rw [hD1]
  unfold slotW1
  have:=writeD_und D (at_+v % 2) (zBs v s)
  omega
 obtain ⟨e,he⟩:∃ e,e=D.writeE (at_+v % 2) (zBs v s):=⟨_,rfl⟩
 rw [← hD1,← he] at c3 ⊢
 by_cases hz:e=0
 ·subst hz
  have hb0:¬ ((0:Nat)≠0):=by simp
  rw [if_neg hb0,if_neg hb0]
  have c4:Ct Tryz.prog W 136 [.pointer (some ⟨p,0,none⟩)] [DiskP p D1] (fun _:Unit=>errV E D1.flushE) (fun _=>[DiskP p D1.flushD]):=flush_ct hE hu1
  have c3':Ct Tryz.prog W 135 [.pointer (some ⟨p,0,none⟩),.int .i64 (at_+v % 2),strV (zBs v s)] [DiskP p D] (fun _:Unit=>.nilIface) (fun _=>[DiskP p D1]):=c3
  refine Ct.enter Tryz.func99 rfl Tryz.ntmps99 (by simp) (fun R=>?_)
  repeat' (first|(refine zAd ?_;first|(refine zAc xE c4 xP rfl (fun _=>?_))|(refine zAc xE c3' xP rfl (fun _=>?_))|(refine zAc xE c2 xP rfl (fun _=>?_))|(refine zAc xE c1 xP rfl (fun _=>?_)))|(refine zBu ?_;refine zAb (zAw rfl hw) ?_)|(refine ek_rem ?_;refine zAb (Ev_remI rfl rfl (by omega)) ?_)|(refine zAq ?_;refine zAb (zAe rfl rfl q1) ?_)|(refine zBf ?_;refine zAb (zAk rfl rfl q2) ?_)|refine xst ?_|(refine xsa ?_;intro _)|(refine xsb ?_ ?_ <;>intro _<;>try (exfalso;omega))|refine xsc ?_|fail)
  all_goals (exact xdn ())
 ·rw [if_pos hz,if_pos hz]
  obtain ⟨ea,hea⟩:=errV_ne (E:=E) hz
  rw [hea] at c3 ⊢
  refine Ct.enter Tryz.func99 rfl Tryz.ntmps99 (by simp) (fun R=>?_)
  repeat' (first|(refine zAd ?_;first|(refine zAc xE c3 xP rfl (fun _=>?_))|(refine zAc xE c2 xP rfl (fun _=>?_))|(refine zAc xE c1 xP rfl (fun _=>?_)))|(refine zBu ?_;refine zAb (zAw rfl hw) ?_)|(refine ek_rem ?_;refine zAb (Ev_remI rfl rfl (by omega)) ?_)|(refine zAq ?_;refine zAb (zAe rfl rfl q1) ?_)|(refine zBf ?_;refine zAb (zAk rfl rfl q2) ?_)|refine xst ?_|(refine xsa ?_;intro _)|(refine xsb ?_ ?_ <;>intro _<;>try (exfalso;omega))|refine xsc ?_|fail)
  all_goals (exact xdn ())
theorem swrite_ct (hE:ErrsOn L8 W E) (hN:NibAt W) (hn:D.n≤65536) (hul:D.und.length<1073741823) (at_ v:Int) (s:List UInt8) :
 Ct Tryz.prog W 99 [.pointer (some ⟨p,0,none⟩),.int .i64 at_,.int .i64 v,strV s] [DiskP p D] (fun _:Unit=>errV E (slotWE D at_ v s)) (fun _=>[DiskP p (slotWD D at_ v s)]):=by
 cases h:slotMay D at_ v with
 |true=>exact swrite_may hE hN hn hul at_ v s h
 |false=>
  have e1:slotWE D at_ v s=6:=by unfold slotWE;rw [if_pos h]
  have e2:slotWD D at_ v s=D:=by unfold slotWD;rw [if_pos h]
  rw [e1,e2]
  exact swrite_bad hE hn at_ v s h
end
end Go.Proofs.YtgipenahkmbelaaGreatDoor
namespace Go.Proofs.YtgipenahkmbelaaGreatDoor
open Go Go.RowKit
theorem u64_of_lt (n:Nat) (h:n<2 ^ 64):IntKind.u64.wrap (n:Int)=(n:Int):=by
 have e:IntKind.u64.wrap (n:Int)=(n:Int) % 18446744073709551616:=rfl
 rw [e];omega
theorem or64 (x y:Nat) (hx:x<2 ^ 64) (hy:y<2 ^ 64):bits .or .u64 (x:Int) (y:Int)=((x ||| y:Nat):Int):=by
 have e:bits .or .u64 (x:Int) (y:Int)=IntKind.u64.wrap ((BitVec.ofInt 64 (x:Int) ||| BitVec.ofInt 64 (y:Int)).toNat:Int):=rfl
 have b1:(BitVec.ofInt 64 (x:Int)).toNat=x:=by rw [BitVec.toNat_ofInt];omega
 have b2:(BitVec.ofInt 64 (y:Int)).toNat=y:=by rw [BitVec.toNat_ofInt];omega
 rw [e,BitVec.toNat_or,b1,b2]
 exact u64_of_lt _ (Nat.or_lt_two_pow hx hy)
theorem getPart_val (x i:Nat) (c:UInt8) (hi:i<8) (hx:x<2 ^ (8*i)):getPart (x:Int) i c=((x+c.toNat*2 ^ (8*i):Nat):Int):=by
 have hc:=UInt8.toNat_lt c
 have hm:min (8*(i:Int)).toNat IntKind.u64.bits=8*i:=by
  show min (8*(i:Int)).toNat 64=8*i
  omega
 have hp:c.toNat*2 ^ (8*i)<2 ^ (8*i+8):=by
  rw [Nat.pow_add,Nat.mul_comm]
  exact Nat.mul_lt_mul_of_pos_left (by omega) (Nat.two_pow_pos _)
 have hp2:(2:Nat) ^ (8*i+8)≤2 ^ 64:=Nat.pow_le_pow_right (by omega) (by omega)
 have hx2:(2:Nat) ^ (8*i)≤2 ^ 64:=Nat.pow_le_pow_right (by omega) (by omega)
 unfold getPart
 rw [hm,u64_of_lt c.toNat (by omega)]
 have e2:((c.toNat:Int)*2 ^ (8*i))=((c.toNat*2 ^ (8*i):Nat):Int):=by simp
 rw [e2,u64_of_lt _ (by omega),or64 _ _ (by omega) (by omega)]
 congr 1
 rw [Nat.or_comm,Nat.mul_comm,← Nat.two_pow_add_eq_or_of_lt hx,Nat.add_comm]
theorem byteAt_val (v i:Nat) (hi:i<8):(byteAt (v:Int) i).toNat=v / 2 ^ (8*i) % 256:=by
 have hm:min (8*(i:Int)).toNat IntKind.u64.bits=8*i:=by
  show min (8*(i:Int)).toNat 64=8*i
  omega
 unfold byteAt byteI
 rw [hm]
 have e:(v:Int).fdiv (2 ^ (8*i))=((v / 2 ^ (8*i):Nat):Int):=by
  rw [Int.fdiv_eq_ediv_of_nonneg _ (by exact Int.pow_nonneg (by decide))]
  simp
 rw [e]
 have e2:∀ z:Nat,IntKind.u8.wrap (z:Int)=((z % 256:Nat):Int):=fun z=>by
  have:IntKind.u8.wrap (z:Int)=(z:Int) % 256:=rfl
  rw [this];omega
 rw [e2,Int.toNat_natCast,UInt8.toNat_ofNat']
 omega
theorem getB_of (l:List UInt8) (v:Nat) (n:Nat) (hn:n≤8) (h:∀ i,i<n→l.getD i 0=byteAt (v:Int) i):getB l n=((v % 2 ^ (8*n):Nat):Int):=by
 induction n with
 |zero=>simp [getB,Nat.mod_one]
 |succ n ih=>
  show getPart (getB l n) n (l.getD n 0)=_
  rw [ih (by omega) (fun i hi=>h i (by omega)),h n (by omega),getPart_val _ _ _ (by omega) (Nat.mod_lt _ (Nat.two_pow_pos _)),byteAt_val _ _ (by omega)]
  congr 1
  rw [show 8*(n+1)=8*n+8 by omega,Nat.pow_add,Nat.mod_mul,Nat.mul_comm (2 ^ (8*n)) _]
theorem putB_get (x:Int) (n i:Nat) (hi:i<n):(putB x n).getD i 0=byteAt x i:=by
 simp [putB,List.getD,hi]
theorem lay_get_in (l:List UInt8) (o:Nat) (b:List UInt8) (i:Nat) (h:o+b.length≤l.length) (h1:o≤i) (h2:i<o+b.length):(lay l o b).getD i 0=b.getD (i-o) 0:=by
 unfold lay
 simp only [List.getD]
 rw [List.getElem?_append_right (by simp;omega),List.length_take,Nat.min_eq_left (by omega),List.getElem?_append_left (by omega)]
theorem lay_get_out (l:List UInt8) (o:Nat) (b:List UInt8) (i:Nat) (h:o+b.length≤l.length) (h1:i<o∨o+b.length≤i):(lay l o b).getD i 0=l.getD i 0:=by
 unfold lay
 simp only [List.getD]
 rcases h1 with h1|h1
 ·rw [List.getElem?_append_left (by simp;omega),List.getElem?_take_of_lt h1]
 ·rw [List.getElem?_append_right (by simp;omega),List.length_take,Nat.min_eq_left (by omega),List.getElem?_append_right (by omega),List.getElem?_drop]
  congr 2
  omega
theorem getD_drop (l:List UInt8) (o i:Nat):(l.drop o).getD i 0=l.getD (o+i) 0:=by
 simp [List.getD,List.getElem?_drop]
section
variable (v:Nat) (s:List UInt8) (hl:s.length≤234)
include hl
theorem seal_tail (i:Nat) (h1:248≤i) (h2:i<256):(zBs v s).getD i 0=byteAt (v:Int) (i-248):=by
 unfold zBs
 rw [lay_get_in _ _ _ _ (by rw [zCf,sealB4_length _ _ hl];omega) h1 (by rw [zCf];omega),putB_get _ _ _ (by omega)]
theorem seal_low (i:Nat) (h:i<244):(zBs v s).getD i 0=(sealB3 v s).getD i 0:=by
 unfold zBs
 rw [lay_get_out _ _ _ _ (by rw [zCf,sealB4_length _ _ hl];omega) (.inl (by omega))]
 unfold sealB4
 rw [lay_get_out _ _ _ _ (by rw [zCf,sealB3_length _ _ hl];omega) (.inl (by omega))]
theorem seal_head (i:Nat) (h:i<8):(zBs v s).getD i 0=byteAt (v:Int) i:=by
 rw [seal_low v s hl i (by omega)]
 unfold sealB3
 rw [lay_get_out _ _ _ _ (by rw [sealB2_length];omega) (.inl (by omega))]
 unfold sealB2
 rw [lay_get_out _ _ _ _ (by rw [zCf,sealB1_length];omega) (.inl (by omega))]
 unfold sealB1
 rw [lay_get_in _ _ _ _ (by rw [zCf,List.length_replicate];omega) (by omega) (by rw [zCf];omega),Nat.sub_zero,putB_get _ _ _ h]
theorem seal_size (i:Nat) (h:i<2):(zBs v s).getD (8+i) 0=byteAt ((s.length:Nat):Int) i:=by
 rw [seal_low v s hl _ (by omega)]
 unfold sealB3
 rw [lay_get_out _ _ _ _ (by rw [sealB2_length];omega) (.inl (by omega))]
 unfold sealB2
 rw [u64_of_lt s.length (by omega),lay_get_in _ _ _ _ (by rw [zCf,sealB1_length];omega) (by omega) (by rw [zCf];omega),putB_get _ _ _ (by omega)]
 congr 1
 omega
theorem seal_body (i:Nat) (h:i<s.length):(zBs v s).getD (10+i) 0=s.getD i 0:=by
 rw [seal_low v s hl _ (by omega)]
 unfold sealB3
 rw [lay_get_in _ _ _ _ (by rw [sealB2_length];omega) (by omega) (by omega)]
 congr 1
 omega
theorem seal_getH (hv:v<2 ^ 64):getB (zBs v s) 8=(v:Int):=by
 rw [getB_of _ v 8 (by omega) (fun i hi=>seal_head v s hl i hi),Nat.mod_eq_of_lt (by omega)]
theorem seal_getT (hv:v<2 ^ 64):getB ((zBs v s).drop 248) 8=(v:Int):=by
 rw [getB_of _ v 8 (by omega) (fun i hi=>by rw [getD_drop,seal_tail v s hl _ (by omega) (by omega),Nat.add_sub_cancel_left]),Nat.mod_eq_of_lt (by omega)]
set_option maxRecDepth 100000 in
theorem seal_openN:openN (zBs v s)=s.length:=by
 have h:=getB_of ((zBs (v:Int) s).drop 8) s.length 2 (by omega) (fun i hi=>by rw [getD_drop];exact seal_size v s hl i hi)
 have e:s.length % 2 ^ (8*2)=s.length:=Nat.mod_eq_of_lt (by show s.length<65536;omega)
 rw [e] at h
 unfold openN
 rw [h,Int.toNat_natCast]
theorem seal_openP:openP (zBs v s)=s:=by
 have hL:=sealB_length (v:Int) s hl
 unfold openP
 rw [seal_openN v s hl]
 apply List.ext_getElem
 ·rw [List.length_drop,List.length_take];omega
 ·intro i h1 h2
  have h3:=seal_body v s hl i h2
  simp only [List.getElem_drop,List.getElem_take]
  rw [List.getD,List.getElem?_eq_getElem (by omega),List.getD,List.getElem?_eq_getElem h2] at h3
  simpa using h3
theorem seal_open (hv0:v≠0):openS (v:Int) (zBs v s)=some s:=by
 unfold openS
 rw [if_neg (by omega),if_neg (by have:=sealB_length (v:Int) s hl;simpa using this),if_neg (by rw [seal_openN v s hl];omega),seal_openP v s hl,if_pos rfl]
theorem seal_count (hv0:1≤v) (hv1:v≤1099511627776):countO (zBs v s) ((v:Int) % 2)=some ((v:Int),s):=by
 unfold countO
 rw [seal_getH v s hl (by omega),seal_getT v s hl (by omega),seal_open v s hl (by omega),if_neg (by have:=sealB_length (v:Int) s hl;simpa using this),if_neg (by simp),if_neg (by omega),if_neg (by omega),if_neg (by simp)]
 rfl
end
end Go.Proofs.YtgipenahkmbelaaGreatDoor
