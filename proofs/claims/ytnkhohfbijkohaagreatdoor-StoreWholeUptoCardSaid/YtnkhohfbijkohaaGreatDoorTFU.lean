/-
  StWL.
-/
import Derived.Test.YtnkhohfbijkohaaGreatDoorTEX
import Derived.Test.YtnkhohfbijkohaaGreatDoorTFT
set_option maxHeartbeats 64000000
namespace Go.Proofs.YtnkhohfbijkohaaGreatDoor
open Go Go.RowKit
abbrev plTFU0:Pl:=(.op 0 (.op 1 (.op 2 (.op 3 (.op 4 (.op 8 (.ef 5 [8,0] (.op 6 (.op 7 (.ef 9 [] .nil))))))))))
abbrev plTFU1:Pl:=(.op 0 (.op 1 (.op 2 (.op 3 (.op 4 (.op 5 (.op 6 (.op 7 (.op 8 (.op 9 (.op 10 (.op 11 (.op 12 (.op 13 (.op 14 (.op 15 (.op 16 (.op 17 (.op 18 (.op 19 (.ef 20 [] (.op 21 (.op 22 (.op 23 (.op 24 (.op 25 .nil))))))))))))))))))))))))))
abbrev plTFU2:Pl:=(.op 0 (.op 1 (.op 2 (.op 3 (.op 4 (.op 5 (.op 6 (.op 7 (.op 8 (.op 9 (.op 10 (.op 11 (.op 12 (.op 13 (.op 14 (.ef 15 [] (.op 16 (.op 17 (.op 18 (.op 19 (.op 20 .nil)))))))))))))))))))))
abbrev plTFU3:Pl:=(.op 0 (.op 1 (.op 2 (.op 3 (.op 5 (.op 8 (.ef 4 [8,5] (.ef 6 [8] (.op 7 (.ef 9 [] .nil))))))))))
def lgR (r:Rows) (recs:List (List UInt8)) (i:Nat):Rows:=(recs.take i).foldl (fun r x=>zAu r (decode x).1) r
theorem lgR_next (r:Rows) {recs:List (List UInt8)} {i:Nat} {x:List UInt8} (h:recs[i]? = some x):lgR r recs (i+1)=zAu (lgR r recs i) (decode x).1:=by
 unfold lgR
 rw [List.take_add_one,h,List.foldl_append]
 rfl
def lrcC (s:List UInt8):List Value:=[strV s]
theorem lrcC_ok:EncOk lrcC 1:=⟨fun _=>rfl,fun x=>by unfold lrcC;exact xO,by omega⟩
theorem lrcC_flat (l:List (List UInt8)):l.map strV=l.flatMap lrcC:=by
 induction l with
 |nil=>rfl
 |cons a l ih=>rw [List.flatMap_cons,← ih];rfl
section
variable {W:World} {F:Nat→Addr} {q s d n g:Nat} {D:Dsk} {r:Rows}
theorem sloadL_ct (hE:ErrsOn L16 W F) (hE8:ErrsOn L8 W F) (hN:NibAt W) (h1:64≤n) (h2:n≤65536) (hr:RisR r) (hsn:(zAj r).length≤234*layA n) (v:Nat) (hv:1≤v∧v≤1099511627776) (life:Int) (hDn:D.n=n) (ho:D.off=false) (hG:slotE D 0=0∧slotN D 0=v∧slotS D 0=hdrB n (zAj r).length∧areaR D (zBj n v) (layA n) v (zAj r).length=(zAj r,0))
 (recs:List (List UInt8)) (g5:rpGo D (zAt n:Nat) (logN n:Nat) v ((((logN n:Nat):Int).toNat)+1) 0 []=recs) (hdec:∀ x ∈ recs,(decode x).2=0∧x.length≤4398046511104) (hrl2:∀ i x,recs[i]? = some x→(lgR r recs i).length+(decode x).1.length≤144115188075855872) (hcn:recs.length≤4611686018427387904) (hfin:(zAj (lgR r recs recs.length)).length≤234*layA n) :
 Ct Tryz.prog W 104 [.pointer (some ⟨s,0,none⟩)] [stP s d q n 0 none life false,DiskP d D] (fun _:Nat × TbQ [] (lgR r recs recs.length)=>.tuple #[]) (fun x=>[stP s d x.1 n (v:Nat) none life false,DiskP d D,tbP x.1 x.2.1.2.1 x.2.1.2.2,arP x.2.1.1]):=by
 have e1:W.cell? ⟨7,0,none⟩=some (errV F 1):=hE.at_ 1 (by decide)
 have e2:W.cell? ⟨8,0,none⟩=some (errV F 2):=hE.at_ 2 (by decide)
 have e3:W.cell? ⟨9,0,none⟩=some (errV F 3):=hE.at_ 3 (by decide)
 have e5:W.cell? ⟨11,0,none⟩=some (errV F 5):=hE.at_ 5 (by decide)
 have e15:W.cell? ⟨17,0,none⟩=some (errV F 15):=hE.at_ 15 (by decide)
 obtain ⟨f1,f2,f3,f4⟩:=zBn h1 v
 have hA:=layA_le (n:=n) (by omega)
 obtain ⟨g1,g2,g3,g4⟩:=hG
 obtain ⟨L,hL⟩:∃ L,L=(zAj r).length:=⟨_,rfl⟩
 rw [← hL] at g3 g4 hsn
 have hsn2:(zAj r).length≤234*layA n:=by omega
 have hrl:=(snap_head r (by omega)).2
 have hLp:=vu_pos L
 have hLl:=vu_len L
 have hvp:=vu_pos n
 have hvn:=vu_len n
 obtain ⟨hd,hhd⟩:∃ hd,hd=hdrB n L:=⟨_,rfl⟩
 have hdl:hd.length=(vu n).length+(vu L).length:=by rw [hhd];unfold hdrB;rw [List.length_append]
 have hru1:ru (hd.drop 0)=.ok n (vu L):=by
  rw [List.drop_zero,hhd]
  exact ru_vu n (by omega) (vu L)
 have hru2:ru (hd.drop (vu n).length)=.ok L []:=by
  rw [hhd]
  unfold hdrB
  rw [List.drop_left]
  have:=ru_vu L (by omega) []
  rwa [List.append_nil] at this
 have cr:Ct Tryz.prog W 45 [.pointer (some ⟨d,0,none⟩),.int .i64 0] [DiskP d D] (fun _:Unit=>.tuple #[strV hd,.int .i64 (v:Nat),.nilIface]) (fun _=>[DiskP d D]):=by
  have:=sread_ct (W:=W) (p:=d) (D:=D) hE8 hN (by omega) 0
  rw [g1,g2,g3,← hhd] at this
  exact this
 have crd:=rread_ct (W:=W) hd
 have cu:∀ g,Ct Tryz.prog W 174 [.pointer (some ⟨g,0,none⟩)] [rdP g hd 0] (fun _:Unit=>.tuple #[.int .u64 (n:Nat),.nilIface]) (fun _=>[rdP g hd (vu n).length]):=fun g=>by
  have:=ruint_ct (W:=W) (F:=F) (p:=g) (s:=hd) (a:=0) (by omega) (by omega) e1 e2 (.ok n (vu L)) hru1
  rw [Nat.zero_add] at this
  exact this
 have cup:∀ g,Ct Tryz.prog W 176 [.pointer (some ⟨g,0,none⟩),.int .i64 (234*layA n:Nat)] [rdP g hd (vu n).length] (fun _:Unit=>.tuple #[.int .i64 (L:Nat),.nilIface]) (fun _=>[rdP g hd ((vu n).length+(vu L).length)]):=fun g=>by
  have:=rupto_ct (W:=W) (F:=F) (p:=g) (s:=hd) (a:=(vu n).length) (234*layA n) (by omega) (by omega) (by omega) e1 e2 e3 (.ok L []) hru2
  have u1:uptN (234*layA n) (.ok L [])=L:=(if_neg (by omega):(if 234*layA n<L then 0 else L)=L)
  have u2:uptE (234*layA n) (.ok L [])=0:=(if_neg (by omega):(if 234*layA n<L then 3 else 0)=0)
  have u3:uptL (234*layA n) (.ok L [])=(vu L).length:=(if_neg (by omega):(if 234*layA n<L then 0 else (vu L).length)=(vu L).length)
  rw [u1,u2,u3] at this
  exact this
 have cd:∀ g,Ct Tryz.prog W 177 [.pointer (some ⟨g,0,none⟩)] [rdP g hd ((vu n).length+(vu L).length)] (fun _:Unit=>.nilIface) (fun _=>[rdP g hd ((vu n).length+(vu L).length)]):=fun g=>by
  have:=rdone_ct (W:=W) (F:=F) (p:=g) (s:=hd) (a:=(vu n).length+(vu L).length) (by omega) (by omega) e5
  rw [if_neg (by omega)] at this
  exact this
 have cm:=must_ct (W:=W)
 have cc:=corrupt_ct (W:=W) hE
 have cun:=unless_ct (W:=W) (errV F 15)
 have cro:=fun q v=>sroom_ct (W:=W) (s:=s) (d:=d) (q:=q) (n:=n) v none life false (by omega)
 have csz:Ct Tryz.prog W 43 [.pointer (some ⟨d,0,none⟩)] [DiskP d D] (fun _:Unit=>.int .i64 (n:Nat)) (fun _=>[DiskP d D]):=by
  have:=size_ct (W:=W) (p:=d) (D:=D)
  rw [hDn] at this
  exact this
 have car:Ct Tryz.prog W 179 [.pointer (some ⟨d,0,none⟩),.int .i64 (zBj n v:Nat),.int .i64 (layA n:Nat),.int .u64 (v:Nat),.int .i64 (L:Nat)] [DiskP d D] (fun _:Unit=>.tuple #[strV (zAj r),.nilIface]) (fun _=>[DiskP d D]):=by
  have:=aread_ct (W:=W) (p:=d) (D:=D) hE8 e15 hN (by omega) (zBj n v:Nat) (layA n:Nat) (v:Nat) (L:Nat)
  rw [g4] at this
  exact this
 have cre:=restore_ct (W:=W) (F:=F) hE hr (by omega) (by omega)
 have crp:Ct Tryz.prog W 181 [.pointer (some ⟨d,0,none⟩),.int .i64 (zAt n:Nat),.int .i64 (logN n:Nat),.int .i64 (v:Nat)] [DiskP d D] (fun x:Option Addr × Nat=>.tuple #[.slice x.1 recs.length x.2,.nilIface]) (fun x=>[DiskP d D,lsP lrcC 9 1 (.slice x.1 recs.length x.2) recs]):=by
  have h:=replay_ct (W:=W) (p:=d) (D:=D) hE8 hN (zAt n:Nat) (logN n:Nat) v (by omega) ho ⟨by omega,by omega,by omega,by omega,by omega,by omega,by omega⟩
  rw [g5,lrcC_flat] at h
  exact Ct.rowSl h
 have csi:=fun (q:Nat) (N:List Nd) (a:Option Addr) (b:Int) (hT:TbOk N a (lgR r recs recs.length))=>ssize_ct (W:=W) (p:=q) (b:=b) hT (by omega)
 clear g1 g2 g3 g4 g5 hru1 hru2 hhd
 have w1:IntKind.u64.wrap ((n:Nat):Int)=((n:Nat):Int):=zBw _ (by omega)
 have w2:IntKind.u64.wrap ((v:Nat):Int)=((v:Nat):Int):=zBw _ (by omega)
 obtain ⟨m,hm⟩:∃ m:Nat,((v:Nat):Int) % 2=(m:Nat):=⟨v % 2,by omega⟩
 have hm2:m<2:=by omega
 have hx:∀ z,(stC d z n 0 none life false)[0+1+0+((m:Nat):Int).toNat*1]? = some (.int .i64 (zBj n v:Nat)):=fun z=>by
  unfold zBj
  rcases (show m=0∨m=1 by omega) with rfl|rfl
  ·rw [if_pos (by omega)];rfl
  ·rw [if_neg (by omega)];rfl
 have qe:decide (((n:Nat):Int)=((n:Nat):Int))=true:=decide_eq_true rfl
 have qs:decide (((zAj (lgR r recs recs.length)).length:Nat)≤((234*layA n:Nat):Int))=true:=decide_eq_true (by omega)
 refine Ct.enter Tryz.func104 rfl Tryz.ntmps104 (by simp) (fun R=>?_)
 repeat' (first|(refine zAd ?_;first|(refine zAa xE crp xP rfl (fun x=>?_);obtain ⟨xa,xc⟩:=x)|(refine zAa xE cre xP rfl (fun y=>?_);obtain ⟨q',⟨⟨N,a,b⟩,gN,hT⟩⟩:=y;dsimp only at gN hT ⊢)|(refine zAa xE car xP rfl (fun _=>?_))|(refine zAa xE cun xP rfl (fun _=>?_))|(refine zAa xE csz xP rfl (fun _=>?_))|(refine zAa xE (cd _) xP rfl (fun _=>?_))|(refine zAa xE (cup _) xP rfl (fun _=>?_))|(refine zAa xE (cro _ _) xP rfl (fun _=>?_))|(refine zAa xE cc xP rfl (fun _=>?_))|(refine zAa xE (cu _) xP rfl (fun _=>?_))|(refine zAa xE crd xP rfl (fun g=>?_))|(refine zAa xE cm xP rfl (fun _=>?_))|(refine zAa xE cr xP rfl (fun _=>?_)))|(refine zAh ?_;first|refine zAc (Ev_load rfl xS (hx _)) ?_|refine zAc (zAp rfl e15) ?_)|(refine zBp ?_;first|refine zAc (zAv rfl w2) ?_|refine zAc (zAv rfl w1) ?_)|(refine ek_rem ?_;refine zAc (Ev_rem_w rfl rfl (by omega) hm) ?_)|(refine zBe ?_;refine zAc (zAk rfl rfl qe) ?_)|refine xst ?_|(refine xsa ?_;intro _)|(refine xsb ?_ ?_ <;>intro _<;>try (exfalso;omega))|refine xsc ?_|(refine zAb (id:=8) plTFU0 (by kernel_rfl) (by kernel_rfl) ?_)|(refine zAb (id:=9) plTFU1 (by kernel_rfl) (by kernel_rfl) ?_)|(refine zAb (id:=12) plTFU2 (by kernel_rfl) (by kernel_rfl) ?_)|(refine zAb (id:=21) plTFU3 (by kernel_rfl) (by kernel_rfl) ?_)|refine zAn ?_ ?_|refine zAm rfl rfl rfl rfl rfl ?_ ?_|refine zAf ?_ ?_|exact Rech.nil|fail)
 have hL:Lv W lrcC 1 (lsP lrcC 9 1 (.slice xa recs.length xc) recs) xa recs:=Lv.own lrcC_ok rfl
 refine zBz (fun x:{x:Nat × List Nd × Option Addr × Int//x.1≤recs.length∧TbOk x.2.1 x.2.2.1 (lgR r recs x.1)}=>[(0,.pointer (some ⟨s,0,none⟩)),(3,.int .i64 (v:Nat)),(108,.slice xa recs.length xc),(109,.int .i64 (recs.length:Nat)),(110,.int .i64 (x.1.1:Nat))])
  (fun x=>[stP s d q' n 0 none life false,DiskP d D,tbP q' x.1.2.2.1 x.1.2.2.2,arP x.1.2.1,lsP lrcC 9 1 (.slice xa recs.length xc) recs]++R) (fun x=>recs.length-x.1.1) ⟨(0,N,a,b),Nat.zero_le _,hT⟩ xB (xN) (fun ⟨(i,N2,a2,b2),hi,hT2⟩=>?_)
 dsimp only at hi hT2 ⊢
 by_cases hlt:i<recs.length
 ·have ql:decide ((i:Int)<(recs.length:Nat))=true:=decide_eq_true (by omega)
  obtain ⟨x,hx0⟩:∃ s,recs[i]? = some s:=⟨_,List.getElem?_eq_getElem hlt⟩
  refine KJ.lvSome hL xS (by omega) (fun b0 of hab=>?_)
  subst hab
  have hoff:of+Int.toNat (i:Int)*1=of+i*1+0:=by simp
  have hv0:(lrcC x)[0]? = some (strV x):=rfl
  have hdx:=hdec x (List.mem_of_getElem? hx0)
  have cde:=bdecode_ct (W:=W) (F:=F) x hdx.2 hE
  rw [hdx.1] at cde
  have hnx:=lgR_next r hx0
  have cba:=fun ya yc=>bapply_ct (W:=W) (p:=q') (tb:=b2) hT2 _ ya yc (decode x).1 (Lv.own (e:=73) (c:=yc) enc_op rfl) (hrl2 i x hx0)
  rw [← hnx] at cba
  have hnn:errV F 0=.nilIface:=rfl
  rw [hnn] at cde
  obtain ⟨os,hos⟩:∃ os,os=(decode x).1:=⟨_,rfl⟩
  rw [← hos] at cde cba
  repeat' (first|(refine zAd ?_;first|(refine zAa xE (cba _ _) xP rfl (fun y=>?_);obtain ⟨⟨N3,a3,b3⟩,g3,t3⟩:=y;dsimp only at g3 t3 ⊢)|(refine zAa xE cc xP rfl (fun _=>?_))|(refine zAa xE cde xP rfl (fun y=>?_);obtain ⟨ya,yc⟩:=y))|(refine zAh ?_;refine zAc (Ev_loadLvF lrcC_ok hL rfl rfl xS hoff hx0 hv0) ?_)|(refine zBk ?_;refine zAc (zAi (r:=((i+1:Nat):Int)) rfl rfl (by omega) (by omega)) ?_)|(refine zAs ?_;refine zAc (zAe rfl rfl ql) ?_)|refine xst ?_|(refine xsa ?_;intro _)|(refine xsb ?_ ?_ <;>intro _<;>try (exfalso;omega))|refine xsc ?_|(refine zAb (id:=8) plTFU0 (by kernel_rfl) (by kernel_rfl) ?_)|(refine zAb (id:=9) plTFU1 (by kernel_rfl) (by kernel_rfl) ?_)|(refine zAb (id:=12) plTFU2 (by kernel_rfl) (by kernel_rfl) ?_)|(refine zAb (id:=21) plTFU3 (by kernel_rfl) (by kernel_rfl) ?_)|refine zAn ?_ ?_|refine zAm rfl rfl rfl rfl rfl ?_ ?_|refine zAf ?_ ?_|exact Rech.nil|fail)
  all_goals refine zBd ⟨(i+1,N3,a3,b3),hlt,t3⟩ (by show recs.length-(i+1)<recs.length-i;omega) xB (xN)
 have ql:decide ((i:Int)<(recs.length:Nat))=false:=decide_eq_false (by omega)
 obtain rfl:i=recs.length:=by omega
 repeat' (first|(refine zAd ?_;first|(refine zAa xE cun xP rfl (fun _=>?_))|(refine zAa xE (cro _ _) xP rfl (fun _=>?_))|(refine zAa xE (csi _ _ _ _ hT2) xP rfl (fun _=>?_)))|(refine zAh ?_;refine zAc (zAp rfl e15) ?_)|(refine zAs ?_;refine zAc (zAe rfl rfl ql) ?_)|(refine ek_leq ?_;refine zAc (Ev_leqI_q rfl rfl qs) ?_)|refine xst ?_|(refine xsa ?_;intro _)|(refine xsb ?_ ?_ <;>intro _<;>try (exfalso;omega))|refine xsc ?_|(refine zAb (id:=8) plTFU0 (by kernel_rfl) (by kernel_rfl) ?_)|(refine zAb (id:=9) plTFU1 (by kernel_rfl) (by kernel_rfl) ?_)|(refine zAb (id:=12) plTFU2 (by kernel_rfl) (by kernel_rfl) ?_)|(refine zAb (id:=21) plTFU3 (by kernel_rfl) (by kernel_rfl) ?_)|refine zAn ?_ ?_|refine zAm rfl rfl rfl rfl rfl ?_ ?_|refine zAf ?_ ?_|exact Rech.nil|fail)
 all_goals (exact xdn (q',⟨(N2,a2,b2),(fun y h=>nomatch h),hT2⟩))
end
end Go.Proofs.YtnkhohfbijkohaaGreatDoor
