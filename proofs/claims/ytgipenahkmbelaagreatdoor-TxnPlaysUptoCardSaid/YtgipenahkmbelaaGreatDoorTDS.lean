/-
  StP, StW1.
-/
import Derived.Test.YtgipenahkmbelaaGreatDoorTBW
import Derived.Test.YtgipenahkmbelaaGreatDoorTCE
import Derived.Test.YtgipenahkmbelaaGreatDoorTEZ
import Derived.Test.YtgipenahkmbelaaGreatDoorTCJ
import Derived.Test.YtgipenahkmbelaaGreatDoorTFE
set_option maxHeartbeats 64000000
namespace Go.Proofs.YtgipenahkmbelaaGreatDoor
open Go Go.RowKit
abbrev plTDS0:Pl:=(.op 0 (.op 1 (.op 2 (.op 4 (.op 5 (.op 7 (.op 8 (.op 11 (.op 12 (.ef 3 [12,11,8,7,5,4,0] (.op 6 (.ef 9 [6,12,11,5,4,0] (.op 10 (.op 13 (.op 14 (.ef 15 [] .nil))))))))))))))))
abbrev plTDS1:Pl:=(.op 0 (.op 1 (.op 2 (.op 3 (.op 4 (.op 5 (.op 6 (.op 7 (.op 8 (.op 9 (.op 10 (.op 11 (.op 12 (.op 13 (.op 14 (.ef 15 [] .nil))))))))))))))))
abbrev plTDS2:Pl:=(.op 0 (.op 1 (.ef 2 [0] (.op 3 (.ef 4 [] .nil)))))
def rowB (p:List UInt8 × List UInt8):List UInt8:=tx p.1++tx p.2
def zBd (r:Rows):List UInt8:=vu r.length++r.flatMap rowB
def hdrB (n len:Nat):List UInt8:=vu n++vu len
theorem hdrB_len (n len:Nat):(hdrB n len).length≤20:=by
 unfold hdrB vu
 rw [List.length_append]
 have h1:=vuF_le 10 n
 have h2:=vuF_le 10 len
 omega
def layA (n:Nat):Nat:=(n-2) / 3
def areaAt (n v:Nat):Nat:=if v % 2=0 then 2 else 2+layA n
def logAt (n:Nat):Nat:=2+2*layA n
def logN (n:Nat):Nat:=n-2-2*layA n
theorem lay_fit {n:Nat} (h:64≤n) (v:Nat):2≤areaAt n v∧areaAt n v+layA n≤logAt n∧logAt n+logN n=n∧20≤layA n:=by
 unfold areaAt logAt logN layA
 split <;> omega
theorem writeD_life (D:Dsk) (i:Int) (s:List UInt8):(D.writeD i s).life=D.life:=by
 unfold Dsk.writeD Dsk.gone
 repeat' split
 all_goals rfl
theorem flushD_life (D:Dsk):D.flushD.life=D.life:=by
 unfold Dsk.flushD Dsk.gone
 repeat' split
 all_goals rfl
theorem awGo_life (at_ stamp:Int):∀ (f:Nat) (D:Dsk) (i:Int) (v:List UInt8),(awGo at_ stamp f D i v).2.life=D.life:=by
 intro f
 induction f with
 |zero=>intro D i v;unfold awGo;exact flushD_life D
 |succ f ih=>
  intro D i v
  unfold awGo
  repeat' split
  ·exact flushD_life D
  ·exact writeD_life _ _ _
  ·rw [ih];exact writeD_life _ _ _
theorem rest_area {D:Dsk} (hr:Rest D) (a n s:Nat) (v:List UInt8) (ha:a+n≤D.n) (hs:1≤s) (hv:v.length≤234*n) (hn:n≤65536) :
 (areaW D a n s v).1=0∧Rest (areaW D a n s v).2∧(areaW D a n s v).2.n=D.n∧(areaW D a n s v).2.life=D.life∧
 (∀ k,234*k<v.length→(areaW D a n s v).2.sec (a+k)=zBs s ((v.drop (234*k)).take 234))∧∀ j,j<D.n→(j<a∨a+n≤j)→(areaW D a n s v).2.sec j=D.sec j:=by
 have hm:D.mayB a n=true:=by unfold Dsk.mayB;exact decide_eq_true (by omega)
 have hns:nsec v.length≤n:=by unfold nsec;omega
 have hroom:roomI n=234*n:=by unfold roomI;omega
 have e1:areaW D a n s v=awGo (a:Int) (s:Int) v.length D ((0:Nat):Int) v:=by
  unfold areaW
  rw [if_neg (by rw [hm];simp),if_neg (by omega),if_neg (by omega),if_neg (by rw [hr.calm.1];simp)]
  rfl
 have hlife:=awGo_life (a:Int) (s:Int) v.length D ((0:Nat):Int) v
 obtain ⟨w1,w2,w3,w4⟩:=aw_ways s a v.length D 0 v hr.calm.1 hr.ok (by omega) (by omega)
 rw [← e1] at w1 w2 w3 w4 hlife
 clear e1
 obtain ⟨r,hr2⟩:∃ r,r=areaW D a n s v:=⟨_,rfl⟩
 rw [← hr2] at w1 w2 w3 w4 hlife ⊢
 clear hr2
 obtain ⟨w0,wa⟩:=w4 hr.calm.2
 rcases w1 with ⟨_,w5,w6,w7⟩|⟨w5,_⟩
 rotate_left
 ·rw [w0] at w5;cases w5
 rw [hr.und,List.nil_append,Nat.add_zero] at w7
 have hlen:=hr.ok.len
 have hin:∀ x ∈ pcs (s:Int) v.length a v,a≤x.1∧x.1<a+nsec v.length∧x.2.length=256:=fun x hx=>pcs_in _ _ _ _ x hx
 refine ⟨w0,⟨⟨w5,wa⟩,w6,w3⟩,w2,hlife,fun k hk=>?_,fun j hj hja=>?_⟩
 ·obtain ⟨d,a1,a2,a3⟩:=torn_pcs (s:Int) D.n (fun _=>256) (fun _=>Nat.le_refl _) v.length a (pcs (s:Int) v.length a v).length 0 v D.img hlen (by omega) k hk
  rw [a3 (fun _=>rfl) (by omega) (Nat.le_refl _),List.take_of_length_le (Nat.le_refl _),cutP_full _ (fun _=>rfl) _ _ (fun x hx=>(hin x hx).2.2),← w7,torn_full _ _ (sealB_length _ _ (by rw [List.length_take];omega)) (cut_length _ _ _ (by unfold nsec at hns;omega))] at a2
  exact a2
 ·unfold Dsk.sec
  rw [w7]
  exact layAll_off D.n j _ _ hlen fun x hx=>by obtain ⟨a1,a2,a3⟩:=hin x hx;exact ⟨by omega,by omega,by omega⟩
theorem rest_area_read {D:Dsk} (hr:Rest D) (a n s:Nat) (v:List UInt8) (ha:a+n≤D.n) (hs:1≤s) (hv:v.length≤234*n) (hn:n≤65536) (hk:∀ k,234*k<v.length→D.sec (a+k)=zBs s ((v.drop (234*k)).take 234)) :
 areaR D a n s v.length=(v,0):=by
 have hm:D.mayB a n=true:=by unfold Dsk.mayB;exact decide_eq_true (by omega)
 have hroom:roomI n=234*n:=by unfold roomI;omega
 have hns:nsec v.length≤n:=by unfold nsec;omega
 have hA:areaR D a n s v.length=arGo D a s v.length (nsec v.length) 0 []:=by
  unfold areaR
  rw [if_neg (by rw [hm];simp),if_neg (by omega),if_neg (by omega),if_neg (by omega),if_neg (by rw [hr.calm.1];simp)]
  have:(sectorsI v.length).toNat=nsec v.length:=by unfold sectorsI nsec;split <;> omega
  rw [this]
 rw [hA]
 exact ar_back hr.calm.1 hr.und a s (by omega) (nsec v.length) 0 v [] v.length rfl (by omega) (fun _=>by omega) hk
theorem slotWD_life (D:Dsk) (a v:Int) (s:List UInt8):(slotWD D a v s).life=D.life:=by
 unfold slotWD slotW1
 repeat' split
 all_goals first|rfl|(rw [flushD_life,writeD_life])|(rw [writeD_life])
structure Good (n:Nat) (r:Rows) (v:Nat) (D:Dsk):Prop where
 rest:Rest D
 nn:D.n=n
 slot:Holds D 0 v (hdrB n (zBd r).length)
 area:∀ k,234*k<(zBd r).length→D.sec (areaAt n v+k)=zBs v (((zBd r).drop (234*k)).take 234)
 log:∀ j,j<logN n→getB ((D.sec (logAt n+j)).drop 248) 8<(stampN v j:Nat)
def fldA (D:Dsk) (n v:Nat) (r:Rows):Dsk:=(areaW D (areaAt n v) (layA n) v (zBd r)).2
def fldD (D:Dsk) (n v:Nat) (r:Rows):Dsk:=slotWD (fldA D n v r) 0 v (hdrB n (zBd r).length)
structure Ready (n v:Nat) (D:Dsk):Prop where
 rest:Rest D
 nn:D.n=n
 slot:∃ l,Holds D 0 v l
 log:∀ j,j<logN n→getB ((D.sec (logAt n+j)).drop 248) 8<(stampN v j:Nat)
theorem Good.ready {n v:Nat} {r:Rows} {D:Dsk} (h:Good n r v D):Ready n v D:=⟨h.rest,h.nn,⟨_,h.slot⟩,h.log⟩
theorem Ready.blank {n:Nat} (h1:64≤n) (h2:n≤65536):Ready n 0 (Dsk.blank n):=by
 refine ⟨blank_rest n (by omega) h2,rfl,⟨[],Holds.blank n 0 (by omega)⟩,fun j hj=>?_⟩
 have hf:=lay_fit h1 0
 rw [blank_sec n _ (by omega),zs_tail0]
 unfold stampN
 omega
theorem Ready.fold {n v:Nat} {D:Dsk} (h:Ready n v D) (r:Rows) (h1:64≤n) (h2:n≤65536) (hv:v+1≤1099511627776) (hr:(zBd r).length≤234*layA n) :
 (areaW D (areaAt n (v+1)) (layA n) ((v+1:Nat):Int) (zBd r)).1=0∧slotWE (fldA D n (v+1) r) 0 ((v+1:Nat):Int) (hdrB n (zBd r).length)=0∧Good n r (v+1) (fldD D n (v+1) r)∧(fldD D n (v+1) r).life=D.life∧(fldA D n (v+1) r).off=false∧(fldA D n (v+1) r).und=[]∧(fldA D n (v+1) r).n=n∧(fldD D n (v+1) r).off=false:=by
 obtain ⟨f1,f2,f3,f4⟩:=lay_fit h1 (v+1)
 obtain ⟨l,hl⟩:=h.slot
 have hn:=h.nn
 obtain ⟨a1,a2,a3,a4,a5,a6⟩:=rest_area h.rest (areaAt n (v+1)) (layA n) (v+1) (zBd r) (by omega) (by omega) hr (by unfold layA;omega)
 have hA:(areaW D (areaAt n (v+1)) (layA n) ((v+1:Nat):Int) (zBd r)).2=fldA D n (v+1) r:=rfl
 rw [hA] at a2 a3 a4 a5 a6
 have hl2:Holds (fldA D n (v+1) r) 0 v l:=hl.keep fun k hk=>by
  refine a6 _ (by omega) (.inl (by omega))
 have hh:=hdrB_len n (zBd r).length
 obtain ⟨b1,b2,b3,b4,b5⟩:=rest_write a2 0 (v+1) (hdrB n (zBd r).length) (by omega) (by omega) hv (by omega)
 have hS:=Holds.next a2 (by omega) hl2 hv (show (hdrB n (zBd r).length).length≤234 by omega)
 refine ⟨a1,b1,⟨b2,b3.trans (a3.trans hn),hS,fun k hk=>?_,fun j hj=>?_⟩,(slotWD_life _ _ _ _).trans a4,a2.calm.1,a2.und,a3.trans hn,b2.calm.1⟩
 ·have:=a5 k hk
  rw [← this]
  exact b5 _ (by omega) (by omega)
 ·have h3:(fldD D n (v+1) r).sec (logAt n+j)=D.sec (logAt n+j):=(b5 _ (by omega) (by omega)).trans (a6 _ (by omega) (.inr (by omega)))
  rw [h3]
  have h4:=h.log j hj
  have h5:stampN v j<stampN (v+1) j:=by unfold stampN;omega
  first|exact Nat.lt_trans h4 h5|exact Int.lt_trans h4 (by omega)
theorem Good.read {n v:Nat} {r:Rows} {D:Dsk} (h:Good n r v D) (h1:64≤n) (h2:n≤65536) (hv:1≤v∧v≤1099511627776) (hr:(zBd r).length≤234*layA n) :
 slotE D 0=0∧slotN D 0=v∧slotS D 0=hdrB n (zBd r).length∧areaR D (areaAt n v) (layA n) v (zBd r).length=(zBd r,0):=by
 obtain ⟨f1,f2,f3,f4⟩:=lay_fit h1 v
 have hn:=h.nn
 have ht:=Holds.told h.rest (a:=0) (by omega) h.slot
 have hv0:¬ v=0:=by omega
 rw [if_neg hv0,if_neg hv0] at ht
 exact ⟨ht.1,ht.2.1,ht.2.2,rest_area_read h.rest _ _ _ _ (by omega) hv.1 hr (by unfold layA;omega) h.area⟩
end Go.Proofs.YtgipenahkmbelaaGreatDoor
namespace Go.Proofs.YtgipenahkmbelaaGreatDoor
open Go Go.RowKit
theorem shr7i (x:Nat):ShrF .i64 (x:Int) 7 ((x / 128:Nat):Int):=by
 refine ⟨by omega,?_⟩
 show (x:Int).fdiv 128=_
 rw [Int.fdiv_eq_ediv_of_nonneg _ (by omega)]
 omega
def snapTo (r:Rows) (i:Nat):List UInt8:=vu r.length++(r.take i).flatMap rowB
theorem snapTo_zero (r:Rows):snapTo r 0=vu r.length:=by simp [snapTo]
theorem snapTo_all (r:Rows):snapTo r r.length=zBd r:=by unfold snapTo zBd;rw [List.take_length]
theorem snapTo_next {r:Rows} {i:Nat} {p:List UInt8 × List UInt8} (h:r[i]? = some p):snapTo r (i+1)=snapTo r i++rowB p:=by
 unfold snapTo
 rw [List.take_add_one,h,List.append_assoc]
 simp
theorem snapTo_len {r:Rows} {i:Nat} {p:List UInt8 × List UInt8} (h:r[i]? = some p):(snapTo r i).length+(rowB p).length≤(zBd r).length:=by
 have e:zBd r=snapTo r (i+1)++(r.drop (i+1)).flatMap rowB:=by
  unfold zBd snapTo
  rw [List.append_assoc,← List.flatMap_append,List.take_append_drop]
 rw [e,snapTo_next h]
 simp
theorem rowB_len (p:List UInt8 × List UInt8):(rowB p).length=(vu p.1.length).length+p.1.length+((vu p.2.length).length+p.2.length):=by
 unfold rowB tx
 simp only [List.length_append]
section
variable {W:World} {N:List Nd} {a:Option Addr} {r:Rows} {p:Nat} {b:Int}
instance fn_varint:FnIs Tryz.prog 93:=⟨by kernel_rfl⟩
theorem varint_ct (x:Nat) (hx:x<9223372036854775808):Ct Tryz.prog W 93 [.int .i64 (x:Nat)] [] (fun _:Unit=>.int .i64 ((vu x).length:Nat)) (fun _=>[]):=by
 have hv:=vu_len x
 refine Ct.enter Tryz.func93 rfl Tryz.ntmps93 (by simp) (fun R=>?_)
 repeat' (first|refine xst ?_|(refine xsa ?_;intro _)|(refine xsb ?_ ?_ <;>intro _<;>try (exfalso;omega))|refine xsc ?_|fail)
 refine zBv (fun i:{i:List UInt8 × Nat × Nat//VuI [] x i}=>[(0,.int .i64 (i.1.2.1:Nat)),(3,.int .i64 (i.1.1.length+1:Nat))])
  (fun _=>[]++R) (fun i=>i.1.2.2) ⟨([],x,9),VuI.start [] (by omega)⟩ xB (xN) (fun ⟨(l',y,f),hi⟩=>?_)
 dsimp only
 have hlen:=hi.len
 dsimp only at hlen
 rw [List.length_nil] at hlen
 by_cases hlt:y<128
 ·have ql:decide ((128:Int)≤(y:Nat))=false:=decide_eq_false (by omega)
  have e1:=congrArg List.length (hi.last hlt)
  rw [List.length_append,List.length_append,List.length_nil,List.length_cons,List.length_nil] at e1
  have e2:(vu x).length=l'.length+1:=by omega
  rw [e2]
  repeat' (first|(refine ek_geq ?_;refine zAb (zBk rfl rfl ql) ?_)|refine xst ?_|(refine xsa ?_;intro _)|(refine xsb ?_ ?_ <;>intro _<;>try (exfalso;omega))|refine xsc ?_|fail)
  all_goals (exact xdn ())
 ·have ql:decide ((128:Int)≤(y:Nat))=true:=decide_eq_true (by omega)
  obtain ⟨f',rfl,hn⟩:=hi.next hlt
  have e3:(l'++[UInt8.ofNat (y % 128+128)]).length+1=l'.length+1+1:=by simp
  repeat' (first|(refine zBh ?_;refine zAb (zAi (r:=((l'.length+1+1:Nat):Int)) rfl rfl (by omega) (by omega)) ?_)|(refine ek_shr ?_;refine zAb (Ev_shr_s rfl rfl (shr7i y)) ?_)|(refine ek_geq ?_;refine zAb (zBk rfl rfl ql) ?_)|refine xst ?_|(refine xsa ?_;intro _)|(refine xsb ?_ ?_ <;>intro _<;>try (exfalso;omega))|refine xsc ?_|fail)
  all_goals
   refine zAv ⟨(l'++[UInt8.ofNat (y % 128+128)],y / 128,f'),hn⟩ (by show f'<f'+1;omega) ?_ (xN)
   dsimp only
   rw [e3]
   exact xB
theorem snap_rows (r:Rows):2*r.length+1≤(zBd r).length:=by
 have h1:∀ l:Rows,2*l.length≤(l.flatMap rowB).length:=fun l=>by
  induction l with
  |nil=>simp
  |cons p l ih=>
   have h2:=rowB_len p
   have h3:=vu_pos p.1.length
   have h4:=vu_pos p.2.length
   rw [List.flatMap_cons,List.length_append,List.length_cons]
   omega
 have h5:=vu_pos r.length
 have:=h1 r
 unfold zBd
 rw [List.length_append]
 omega
theorem ssize_ct (hT:TbOk N a r) (hl:(zBd r).length≤4611686018427387904) :
 Ct Tryz.prog W 64 [.pointer (some ⟨p,0,none⟩)] [tbP p a b,arP N] (fun _:Unit=>.int .i64 ((zBd r).length:Nat)) (fun _=>[tbP p a b,arP N]):=by
 have cl:=tlen_ct (W:=W) (p:=p) (b:=b) hT
 have cf:=tfrom_ct (W:=W) (p:=p) (a:=a) (b:=b) []
 have hrl:=snap_rows r
 have cv0:Ct Tryz.prog W 93 [.int .i64 (r.length:Nat)] [] (fun _:Unit=>.int .i64 ((snapTo r 0).length:Nat)) (fun _=>[]):=by
  rw [snapTo_zero]
  exact varint_ct (W:=W) r.length (by omega)
 obtain ⟨t,h1,h2,ht,h4⟩:=hT
 have hL:r=t.frm []:=by rw [frm_nil,ht]
 refine Ct.enter Tryz.func64 rfl Tryz.ntmps64 (by simp) (fun R=>?_)
 repeat' (first|(refine zBc ?_;refine zAu rfl (fun g3=>?_))|(refine zAd ?_;first|(refine zAc xE cv0 xP rfl (fun _=>?_))|(refine zAc xE cf xP rfl (fun z=>?_);obtain ⟨gr,gl⟩:=z)|(refine zAc xE cl xP rfl (fun _=>?_)))|refine xst ?_|(refine xsa ?_;intro _)|(refine xsb ?_ ?_ <;>intro _<;>try (exfalso;omega))|refine xsc ?_|(refine zAa (id:=5) plTDS0 (by kernel_rfl) (by kernel_rfl) ?_)|refine zAp ?_ ?_|refine zAn rfl rfl rfl rfl rfl ?_ ?_|refine zAg ?_ ?_|exact Rech.nil|fail)
 refine KJ_rangeFrom (gr:=gr) (gl:=gl) (L:=r) rfl rfl h1 hL rfl (by decide) (fun i=>zAh g3 [.int .i64 ((snapTo r i).length:Nat)] 3) (fun i=>factP False) .ret xP (fun l i s hs R'=>?_) ?_ (fun i hi=>?_)
 ·have hlen:=snapTo_len hs
  have hrw:=rowB_len s
  dsimp only [Env.ofPs]
  have cvk:=varint_ct (W:=W) s.1.length (by omega)
  have cvv:=varint_ct (W:=W) s.2.length (by omega)
  have e:((snapTo r i).length:Int)+(((vu s.1.length).length:Int)+(s.1.length:Int)+((vu s.2.length).length:Int)+(s.2.length:Int))=((snapTo r (i+1)).length:Nat):=by
   rw [snapTo_next hs,List.length_append,hrw]
   omega
  repeat' (first|(refine is_begin ?_;refine KJ_begin xS ?_)|(refine is_fo ?_;(refine FO_call (X:=Unit) xE cvk xP rfl ?_))|(refine is_ro ?_;(refine FO_call (X:=Unit) xE cvk xP rfl ?_))|(refine is_fo ?_;(refine FO_call (X:=Unit) xE cvv xP rfl ?_))|(refine is_ro ?_;(refine FO_call (X:=Unit) xE cvv xP rfl ?_))|refine xst ?_|(refine xsa ?_;intro _)|(refine xsb ?_ ?_ <;>intro _<;>try (exfalso;omega))|refine xsc ?_|(refine zAa (id:=5) plTDS1 (by kernel_rfl) (by kernel_rfl) ?_)|refine zAp ?_ ?_|refine zAn rfl rfl rfl rfl rfl ?_ ?_|refine zAg ?_ ?_|exact Rech.nil|fail)
  all_goals
   rw [e]
   exact KJ_round_t xS (xN)
 ·rw [snapTo_all]
  repeat' (first|refine xst ?_|(refine xsa ?_;intro _)|(refine xsb ?_ ?_ <;>intro _<;>try (exfalso;omega))|refine xsc ?_|(refine zAa (id:=5) plTDS0 (by kernel_rfl) (by kernel_rfl) ?_)|refine zAp ?_ ?_|refine zAn rfl rfl rfl rfl rfl ?_ ?_|refine zAg ?_ ?_|exact Rech.nil|fail)
  all_goals (exact xdn ())
 ·exact KJ_absurdT xS
theorem snapshot_ct (hT:TbOk N a r) (hl:(zBd r).length+10≤140737488355328) :
 Ct Tryz.prog W 95 [.pointer (some ⟨p,0,none⟩)] [tbP p a b,arP N] (fun _:Unit=>strV (zBd r)) (fun _=>[tbP p a b,arP N]):=by
 have cl:=tlen_ct (W:=W) (p:=p) (b:=b) hT
 have cf:=tfrom_ct (W:=W) (p:=p) (a:=a) (b:=b) []
 have cn:=wnew_ct (W:=W)
 have hrl:=snap_rows r
 have e1:IntKind.u64.wrap ((r.length:Nat):Int)=((r.length:Nat):Int):=u64_wrap _ (by omega)
 have cu:∀ g,Ct Tryz.prog W 97 [.pointer (some ⟨g,0,none⟩),.int .u64 (r.length:Nat)] [WrP g []] (fun _:Unit=>.tuple #[]) (fun _=>[WrP g (snapTo r 0)]):=fun g=>by
  have:=wuint_ct (W:=W) (p:=g) (l:=[]) r.length (by omega) (by simp)
  rw [List.nil_append,← snapTo_zero r] at this
  exact this
 have co:∀ g,Ct Tryz.prog W 100 [.pointer (some ⟨g,0,none⟩)] [WrP g (zBd r)] (fun _:Unit=>strV (zBd r)) (fun _=>[WrP g (zBd r)]):=fun g=>wout_ct (W:=W) (by omega)
 obtain ⟨t,h1,h2,ht,h4⟩:=hT
 have hL:r=t.frm []:=by rw [frm_nil,ht]
 refine Ct.enter Tryz.func95 rfl Tryz.ntmps95 (by simp) (fun R=>?_)
 repeat' (first|(refine zBc ?_;refine zAu rfl (fun g3=>?_))|(refine zAd ?_;first|(refine zAc xE (cu _) xP rfl (fun _=>?_))|(refine zAc xE cn xP rfl (fun pw=>?_))|(refine zAc xE cf xP rfl (fun z=>?_);obtain ⟨gr,gl⟩:=z)|(refine zAc xE cl xP rfl (fun _=>?_)))|(refine zBu ?_;refine zAb (zAw rfl e1) ?_)|refine xst ?_|(refine xsa ?_;intro _)|(refine xsb ?_ ?_ <;>intro _<;>try (exfalso;omega))|refine xsc ?_|(refine zAa (id:=2) plTDS2 (by kernel_rfl) (by kernel_rfl) ?_)|refine zAp ?_ ?_|refine zAn rfl rfl rfl rfl rfl ?_ ?_|refine zAg ?_ ?_|exact Rech.nil|fail)
 all_goals
  refine KJ.allShut (L:=[zAh g3 [.pointer (some ⟨pw,0,none⟩)] 146,WrP pw (snapTo r 0)]) 78 xP ?_
  refine KJ_rangeFrom (gr:=gr) (gl:=gl) (L:=r) rfl rfl h1 hL rfl (by decide) (fun i=>allP 78 [zAh g3 [.pointer (some ⟨pw,0,none⟩)] 146,WrP pw (snapTo r i)]) (fun i=>factP False) .ret xP (fun l i s hs R'=>?_) ?_ (fun i hi=>?_)
  ·have hlen:=snapTo_len hs
   have hrw:=rowB_len s
   have hv1:=vu_pos s.1.length
   have hv2:=vu_pos s.2.length
   dsimp only [Env.ofPs]
   refine KJ.allOpen xS ?_
   have ck:=wtext_ct (W:=W) (p:=pw) (l:=snapTo r i) s.1 (by omega)
   have cv:Ct Tryz.prog W 132 [.pointer (some ⟨pw,0,none⟩),strV s.2] [WrP pw (snapTo r i++tx s.1)] (fun _:Unit=>.tuple #[]) (fun _=>[WrP pw (snapTo r (i+1))]):=by
    have:=wtext_ct (W:=W) (p:=pw) (l:=snapTo r i++tx s.1) s.2 (by rw [List.length_append];unfold tx;rw [List.length_append];omega)
    rw [List.append_assoc,show tx s.1++tx s.2=rowB s from rfl,← snapTo_next hs] at this
    exact this
   repeat' (first|(refine is_begin ?_;refine KJ_begin xS ?_)|(refine zAd ?_;first|(refine zAc xE cv xP rfl (fun _=>?_))|(refine zAc xE ck xP rfl (fun _=>?_)))|refine xst ?_|(refine xsa ?_;intro _)|(refine xsb ?_ ?_ <;>intro _<;>try (exfalso;omega))|refine xsc ?_|(refine zAa (id:=2) plTDS2 (by kernel_rfl) (by kernel_rfl) ?_)|refine zAp ?_ ?_|refine zAn rfl rfl rfl rfl rfl ?_ ?_|refine zAg ?_ ?_|exact Rech.nil|fail)
   refine KJ.allShut (L:=[zAh g3 [.pointer (some ⟨pw,0,none⟩)] 146,WrP pw (snapTo r (i+1))]) 78 xP ?_
   exact KJ_round_t xS (xN)
  ·refine KJ.allOpen xS ?_
   rw [snapTo_all]
   repeat' (first|(refine zAd ?_;refine zAc xE (co _) xP rfl (fun _=>?_))|refine xst ?_|(refine xsa ?_;intro _)|(refine xsb ?_ ?_ <;>intro _<;>try (exfalso;omega))|refine xsc ?_|(refine zAa (id:=2) plTDS2 (by kernel_rfl) (by kernel_rfl) ?_)|refine zAp ?_ ?_|refine zAn rfl rfl rfl rfl rfl ?_ ?_|refine zAg ?_ ?_|exact Rech.nil|fail)
   all_goals (exact xdn ())
  ·exact KJ_absurdT xS
end
end Go.Proofs.YtgipenahkmbelaaGreatDoor
