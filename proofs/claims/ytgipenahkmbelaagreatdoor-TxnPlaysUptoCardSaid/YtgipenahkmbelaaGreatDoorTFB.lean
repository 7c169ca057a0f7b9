/-
  StW9, StWA.
-/
import Derived.Test.YtgipenahkmbelaaGreatDoorTEQ
import Derived.Test.YtgipenahkmbelaaGreatDoorTEC
import Derived.Test.YtgipenahkmbelaaGreatDoorTEZ
import Derived.Test.YtgipenahkmbelaaGreatDoorTEI
set_option maxHeartbeats 64000000
namespace Go.Proofs.YtgipenahkmbelaaGreatDoor
open Go Go.RowKit
abbrev plTFB0:Pl:=(.op 0 (.op 1 (.op 2 (.op 3 (.op 4 (.op 8 (.ef 5 [8,0] (.op 6 (.op 7 (.ef 9 [] .nil))))))))))
abbrev plTFB1:Pl:=(.op 0 (.op 1 (.op 2 (.op 3 (.op 4 (.op 5 (.op 6 (.op 7 (.op 8 (.op 9 (.op 10 (.op 11 (.op 12 (.op 13 (.op 14 (.op 15 (.op 16 (.op 17 (.op 18 (.op 19 (.ef 20 [] (.op 21 (.op 22 (.op 23 (.op 24 (.op 25 .nil))))))))))))))))))))))))))
abbrev plTFB2:Pl:=(.op 0 (.op 1 (.op 2 (.op 3 (.op 4 (.op 5 (.op 6 (.op 7 (.op 8 (.op 9 (.op 10 (.op 11 (.op 12 (.op 13 (.op 14 (.ef 15 [] (.op 16 (.op 17 (.op 18 (.op 19 (.op 20 .nil)))))))))))))))))))))
abbrev plTFB3:Pl:=(.op 0 (.op 1 (.op 2 (.op 3 (.op 5 (.op 8 (.ef 4 [8,5] (.ef 6 [8] (.op 7 (.ef 9 [] .nil))))))))))
abbrev plTFB4:Pl:=(.op 0 (.ef 1 [0] (.ef 2 [] .nil)))
abbrev plTFB5:Pl:=(.op 0 (.op 1 (.ef 2 [0] (.ef 3 [] (.ef 4 [] .nil)))))
section
variable {W:World} {F:Nat→Addr} {r:Rows}
theorem restore_ct (hE:ErrsOn L16 W F) (hr:RisR r) (hl:(zBd r).length≤4611686018427387904) (hl2:r.length≤144115188075855872) :
 Ct Tryz.prog W 110 [strV (zBd r)] [] (fun x:Nat × TbQ [] r=>.pointer (some ⟨x.1,0,none⟩)) (fun x=>[tbP x.1 x.2.1.2.1 x.2.1.2.2,arP x.2.1.1]):=by
 have e1:W.cell? ⟨10,0,none⟩=some (errV F 1):=hE.at_ 1 (by decide)
 have e2:W.cell? ⟨11,0,none⟩=some (errV F 2):=hE.at_ 2 (by decide)
 have e3:W.cell? ⟨12,0,none⟩=some (errV F 3):=hE.at_ 3 (by decide)
 have e5:W.cell? ⟨14,0,none⟩=some (errV F 5):=hE.at_ 5 (by decide)
 have e15:W.cell? ⟨8,0,none⟩=some (errV F 15):=hE.at_ 15 (by decide)
 have hrow:=fun i p (h:r[i]? = some p)=>snap_row h hl
 obtain ⟨hh1,hh2⟩:=snap_head r hl
 have hp0:posB r 0=0+(vu r.length).length:=by rw [posB_zero];omega
 have hpe:=posB_end r
 have hpn:=fun i p (h:r[i]? = some p)=>posB_next h
 have hvl:=vu_len r.length
 have hv2:(vu r.length).length≤(zBd r).length:=by unfold zBd;rw [List.length_append];omega
 obtain ⟨S,hS⟩:∃ S,S=zBd r:=⟨_,rfl⟩
 rw [← hS] at hl hrow hh1 hh2 hpe hv2 ⊢
 clear hS
 have crd:=rread_ct (W:=W) S
 have cup:∀ g,Ct Tryz.prog W 106 [.pointer (some ⟨g,0,none⟩),.int .i64 (S.length:Nat)] [rdP g S 0] (fun _:Unit=>.tuple #[.int .i64 (r.length:Nat),.nilIface]) (fun _=>[rdP g S (posB r 0)]):=fun g=>by
  have:=rupto_ct (W:=W) (F:=F) (p:=g) (s:=S) (a:=0) S.length (by omega) (by omega) (by omega) e1 e2 e3 (.ok r.length (r.flatMap rowB)) hh1
  have u1:uptN S.length (.ok r.length (r.flatMap rowB))=r.length:=(if_neg (by omega):(if S.length<r.length then 0 else r.length)=r.length)
  have u2:uptE S.length (.ok r.length (r.flatMap rowB))=0:=(if_neg (by omega):(if S.length<r.length then 3 else 0)=0)
  have u3:uptL S.length (.ok r.length (r.flatMap rowB))=(vu r.length).length:=(if_neg (by omega):(if S.length<r.length then 0 else (vu r.length).length)=(vu r.length).length)
  rw [u1,u2,u3,← hp0] at this
  exact this
 have cd:∀ g,Ct Tryz.prog W 107 [.pointer (some ⟨g,0,none⟩)] [rdP g S S.length] (fun _:Unit=>.nilIface) (fun _=>[rdP g S S.length]):=fun g=>by
  have:=rdone_ct (W:=W) (F:=F) (p:=g) (s:=S) (a:=S.length) (Nat.le_refl _) (by omega) e5
  rw [if_neg (by omega)] at this
  exact this
 have cc:=corrupt_ct (W:=W) hE
 have cun:=unless_ct (W:=W) (errV F 15)
 have ct:=tnew_ct (W:=W)
 refine Ct.enter Tryz.func110 rfl Tryz.ntmps110 (by simp) (fun R=>?_)
 refine KJ.arNil ?_
 repeat' (first|(refine zAd ?_;first|(refine zAc xE ct xP rfl (fun q=>?_))|(refine zAc xE cc xP rfl (fun _=>?_))|(refine zAc xE (cup _) xP rfl (fun _=>?_))|(refine zAc xE crd xP rfl (fun g=>?_)))|refine xst ?_|(refine xsa ?_;intro _)|(refine xsb ?_ ?_ <;>intro _<;>try (exfalso;omega))|refine xsc ?_|fail)
 refine zBv (fun x:{x:Nat × List UInt8 × List Nd × Option Addr × Int//x.1≤r.length∧TbOk x.2.2.1 x.2.2.2.1 (r.take x.1)∧∀ i p,x.1=i+1→r[i]? = some p→x.2.1=p.1}=>[(0,strV S),(3,.pointer (some ⟨g,0,none⟩)),(6,.pointer (some ⟨q,0,none⟩)),(7,strV x.1.2.1),(24,.int .i64 (r.length:Nat)),(25,.int .i64 (x.1.1:Nat))])
  (fun x=>[tbP q x.1.2.2.2.1 x.1.2.2.2.2,arP x.1.2.2.1,rdP g S (posB r x.1.1)]++R) (fun x=>r.length-x.1.1) ⟨(0,[],[],none,0),Nat.zero_le _,TbOk.nil [],fun i p h=>by cases h⟩ xB (xN) (fun ⟨(i,last,N,a,b),hi,hT,hlast⟩=>?_)
 dsimp only at hi hT hlast ⊢
 by_cases hlt:i<r.length
 rotate_left
 ·have ql:decide ((i:Int)<(r.length:Nat))=false:=decide_eq_false (by omega)
  obtain rfl:i=r.length:=by omega
  rw [List.take_length] at hT
  rw [hpe]
  repeat' (first|(refine zAd ?_;first|(refine zAc xE cc xP rfl (fun _=>?_))|(refine zAc xE (cd _) xP rfl (fun _=>?_)))|(refine zAq ?_;refine zAb (zAe rfl rfl ql) ?_)|refine xst ?_|(refine xsa ?_;intro _)|(refine xsb ?_ ?_ <;>intro _<;>try (exfalso;omega))|refine xsc ?_|fail)
  all_goals (exact xdn (q,⟨(N,a,b),(fun y h=>nomatch h),hT⟩))
 have ql:decide ((i:Int)<(r.length:Nat))=true:=decide_eq_true (by omega)
 obtain ⟨p,hp⟩:∃ p,r[i]? = some p:=⟨_,List.getElem?_eq_getElem hlt⟩
 obtain ⟨t,u,h1,h2,h3⟩:=hrow i p hp
 have hn:=hpn i p hp
 have hlen:(r.take i).length≤144115188075855872:=by rw [List.length_take];omega
 have hput:=put_next hr hp
 have hnx:∀ j y,i+1=j+1→r[j]? = some y→p.1=y.1:=fun j y e h=>by
  obtain rfl:i=j:=by omega
  rw [hp] at h
  cases h;rfl
 have hless:0<i→Op.bytesLess last p.1=true:=fun h0=>by
  obtain ⟨j,rfl⟩:∃ j,i=j+1:=⟨i-1,by omega⟩
  obtain ⟨y,hy⟩:∃ y,r[j]? = some y:=⟨_,List.getElem?_eq_getElem (show j<r.length by omega)⟩
  rw [hlast j y rfl hy]
  exact ris_next hr hy hp
 obtain ⟨k,val⟩:=p
 dsimp only at h1 h2 h3 hn hput hless hnx
 have cx1:Ct Tryz.prog W 144 [.pointer (some ⟨g,0,none⟩),.int .i64 (S.length:Nat)] [rdP g S (posB r i)] (fun _:Unit=>.tuple #[strV k,.nilIface]) (fun _=>[rdP g S (posB r i+(tx k).length)]):=
  rtext_ct (W:=W) (F:=F) (p:=g) (s:=S) (a:=posB r i) S.length (by omega) (by omega) (by omega) e1 e2 e3 _ h1
 have cx2:Ct Tryz.prog W 144 [.pointer (some ⟨g,0,none⟩),.int .i64 (S.length:Nat)] [rdP g S (posB r i+(tx k).length)] (fun _:Unit=>.tuple #[strV val,.nilIface]) (fun _=>[rdP g S (posB r (i+1))]):=by
  rw [hn]
  exact rtext_ct (W:=W) (F:=F) (p:=g) (s:=S) (a:=posB r i+(tx k).length) S.length (by omega) (by omega) (by omega) e1 e2 e3 _ h2
 have cp:=tput_ct (W:=W) (p:=q) (b:=b) (k:=k) (v:=val) hT (by omega)
 rw [hput] at cp
 obtain ⟨x0,hx0⟩:∃ x,x=posB r i:=⟨_,rfl⟩
 obtain ⟨x1,hx1⟩:∃ x,x=x0+(tx k).length:=⟨_,rfl⟩
 rw [← hx0] at cx1 cx2 ⊢
 rw [← hx1] at cx1 cx2
 clear hx0 hx1 h1 h2 h3 hn hput hrow hpn
 by_cases h0:i=0
 ·have q0:decide (((i:Nat):Int)=0)=true:=decide_eq_true (by omega)
  repeat' (first|(refine zAd ?_;first|(refine zAc xE cp xP rfl (fun y=>?_);obtain ⟨⟨N1,a1,b1⟩,g1,t1⟩:=y;dsimp only at g1 t1 ⊢)|(refine zAc xE cun xP rfl (fun _=>?_))|(refine zAc xE cc xP rfl (fun _=>?_))|(refine zAc xE cx2 xP rfl (fun _=>?_))|(refine zAc xE cx1 xP rfl (fun _=>?_)))|(refine zAm ?_;refine zAb (zAt rfl e15) ?_)|(refine zBh ?_;refine zAb (zAi (r:=((i+1:Nat):Int)) rfl rfl (by omega) (by omega)) ?_)|(refine zBg ?_;refine zAb (zAr rfl rfl q0) ?_)|(refine zAq ?_;refine zAb (zAe rfl rfl ql) ?_)|refine xst ?_|(refine xsa ?_;intro _)|(refine xsb ?_ ?_ <;>intro _<;>try (exfalso;omega))|refine xsc ?_|fail)
  all_goals refine zAv ⟨(i+1,k,N1,a1,b1),hlt,t1,hnx⟩ (by show r.length-(i+1)<r.length-i;omega) xB (xN)
 ·have q0:decide (((i:Nat):Int)=0)=false:=decide_eq_false (by omega)
  have hl0:=hless (by omega)
  have hne:decide (k=last)=false:=decide_eq_false (fun e=>by rw [e,tl_irr] at hl0;cases hl0)
  have qs:(!(Op.bytesLess k last || decide (k=last)))=true:=by rw [tl_asym hl0,hne];rfl
  repeat' (first|(refine zAd ?_;first|(refine zAc xE cp xP rfl (fun y=>?_);obtain ⟨⟨N1,a1,b1⟩,g1,t1⟩:=y;dsimp only at g1 t1 ⊢)|(refine zAc xE cun xP rfl (fun _=>?_))|(refine zAc xE cc xP rfl (fun _=>?_))|(refine zAc xE cx2 xP rfl (fun _=>?_))|(refine zAc xE cx1 xP rfl (fun _=>?_)))|(refine zAm ?_;refine zAb (zAt rfl e15) ?_)|(refine zBh ?_;refine zAb (zAi (r:=((i+1:Nat):Int)) rfl rfl (by omega) (by omega)) ?_)|(refine zBg ?_;refine zAb (zAr rfl rfl q0) ?_)|(refine zAq ?_;refine zAb (zAe rfl rfl ql) ?_)|(refine zBf ?_;refine zAb (Ev_gtrS_q rfl rfl qs) ?_)|refine xst ?_|(refine xsa ?_;intro _)|(refine xsb ?_ ?_ <;>intro _<;>try (exfalso;omega))|refine xsc ?_|fail)
  all_goals refine zAv ⟨(i+1,k,N1,a1,b1),hlt,t1,hnx⟩ (by show r.length-(i+1)<r.length-i;omega) xB (xN)
end
end Go.Proofs.YtgipenahkmbelaaGreatDoor
namespace Go.Proofs.YtgipenahkmbelaaGreatDoor
open Go Go.RowKit
section
variable {W:World} {F:Nat→Addr} {q s d n g:Nat} {D:Dsk} {r:Rows}
theorem sloadR_ct (hE:ErrsOn L16 W F) (hE8:ErrsOn L8 W F) (hN:NibAt W) (h1:64≤n) (h2:n≤65536) (hr:RisR r) (hsn:(zBd r).length≤234*layA n) (v:Nat) (hv:1≤v∧v≤1099511627776) (life:Int) (hG:Good n r v D) :
 Ct Tryz.prog W 69 [.pointer (some ⟨s,0,none⟩)] [stP s d q n 0 none life false,DiskP d D] (fun _:Nat × TbQ [] r=>.tuple #[]) (fun x=>[stP s d x.1 n (v:Nat) none life false,DiskP d D,tbP x.1 x.2.1.2.1 x.2.1.2.2,arP x.2.1.1]):=by
 have e1:W.cell? ⟨10,0,none⟩=some (errV F 1):=hE.at_ 1 (by decide)
 have e2:W.cell? ⟨11,0,none⟩=some (errV F 2):=hE.at_ 2 (by decide)
 have e3:W.cell? ⟨12,0,none⟩=some (errV F 3):=hE.at_ 3 (by decide)
 have e5:W.cell? ⟨14,0,none⟩=some (errV F 5):=hE.at_ 5 (by decide)
 have e15:W.cell? ⟨8,0,none⟩=some (errV F 15):=hE.at_ 15 (by decide)
 obtain ⟨f1,f2,f3,f4⟩:=lay_fit h1 v
 have hA:=layA_le (n:=n) (by omega)
 have hDn:=hG.nn
 have ho:=hG.rest.calm.1
 obtain ⟨g1,g2,g3,g4⟩:=hG.read h1 h2 hv hsn
 have g5:=hG.logE h1 h2 hv
 obtain ⟨L,hL⟩:∃ L,L=(zBd r).length:=⟨_,rfl⟩
 rw [← hL] at g3 g4 hsn
 have hsn2:(zBd r).length≤234*layA n:=by omega
 have hrl:=(snap_head r (by omega)).2
 have hLp:=vu_pos L
 have hLl:=vu_len L
 have hvp:=vu_pos n
 have hvn:=vu_len n
 obtain ⟨hd,hhd⟩:∃ hd,hd=hdrB n L:=⟨_,rfl⟩
 have hdl:hd.length=(vu n).length+(vu L).length:=by rw [hhd];unfold hdrB;rw [List.length_append]
 have hru1:ru (hd.drop 0)=.ok n (vu L):=by
  rw [List.drop_zero,hhd]
  exact ru_vu n (by omega) (vu L)
 have hru2:ru (hd.drop (vu n).length)=.ok L []:=by
  rw [hhd]
  unfold hdrB
  rw [List.drop_left]
  have:=ru_vu L (by omega) []
  rwa [List.append_nil] at this
 have cr:Ct Tryz.prog W 61 [.pointer (some ⟨d,0,none⟩),.int .i64 0] [DiskP d D] (fun _:Unit=>.tuple #[strV hd,.int .i64 (v:Nat),.nilIface]) (fun _=>[DiskP d D]):=by
  have:=sread_ct (W:=W) (p:=d) (D:=D) hE8 hN (by omega) 0
  rw [g1,g2,g3,← hhd] at this
  exact this
 have crd:=rread_ct (W:=W) hd
 have cu:∀ g,Ct Tryz.prog W 104 [.pointer (some ⟨g,0,none⟩)] [rdP g hd 0] (fun _:Unit=>.tuple #[.int .u64 (n:Nat),.nilIface]) (fun _=>[rdP g hd (vu n).length]):=fun g=>by
  have:=ruint_ct (W:=W) (F:=F) (p:=g) (s:=hd) (a:=0) (by omega) (by omega) e1 e2 (.ok n (vu L)) hru1
  rw [Nat.zero_add] at this
  exact this
 have cup:∀ g,Ct Tryz.prog W 106 [.pointer (some ⟨g,0,none⟩),.int .i64 (234*layA n:Nat)] [rdP g hd (vu n).length] (fun _:Unit=>.tuple #[.int .i64 (L:Nat),.nilIface]) (fun _=>[rdP g hd ((vu n).length+(vu L).length)]):=fun g=>by
  have:=rupto_ct (W:=W) (F:=F) (p:=g) (s:=hd) (a:=(vu n).length) (234*layA n) (by omega) (by omega) (by omega) e1 e2 e3 (.ok L []) hru2
  have u1:uptN (234*layA n) (.ok L [])=L:=(if_neg (by omega):(if 234*layA n<L then 0 else L)=L)
  have u2:uptE (234*layA n) (.ok L [])=0:=(if_neg (by omega):(if 234*layA n<L then 3 else 0)=0)
  have u3:uptL (234*layA n) (.ok L [])=(vu L).length:=(if_neg (by omega):(if 234*layA n<L then 0 else (vu L).length)=(vu L).length)
  rw [u1,u2,u3] at this
  exact this
 have cd:∀ g,Ct Tryz.prog W 107 [.pointer (some ⟨g,0,none⟩)] [rdP g hd ((vu n).length+(vu L).length)] (fun _:Unit=>.nilIface) (fun _=>[rdP g hd ((vu n).length+(vu L).length)]):=fun g=>by
  have:=rdone_ct (W:=W) (F:=F) (p:=g) (s:=hd) (a:=(vu n).length+(vu L).length) (by omega) (by omega) e5
  rw [if_neg (by omega)] at this
  exact this
 have cm:=must_ct (W:=W)
 have cc:=corrupt_ct (W:=W) hE
 have cun:=unless_ct (W:=W) (errV F 15)
 have cro:=fun q v=>sroom_ct (W:=W) (s:=s) (d:=d) (q:=q) (n:=n) v none life false (by omega)
 have csz:Ct Tryz.prog W 59 [.pointer (some ⟨d,0,none⟩)] [DiskP d D] (fun _:Unit=>.int .i64 (n:Nat)) (fun _=>[DiskP d D]):=by
  have:=size_ct (W:=W) (p:=d) (D:=D)
  rw [hDn] at this
  exact this
 have car:Ct Tryz.prog W 109 [.pointer (some ⟨d,0,none⟩),.int .i64 (areaAt n v:Nat),.int .i64 (layA n:Nat),.int .u64 (v:Nat),.int .i64 (L:Nat)] [DiskP d D] (fun _:Unit=>.tuple #[strV (zBd r),.nilIface]) (fun _=>[DiskP d D]):=by
  have:=aread_ct (W:=W) (p:=d) (D:=D) hE8 e15 hN (by omega) (areaAt n v:Nat) (layA n:Nat) (v:Nat) (L:Nat)
  rw [g4] at this
  exact this
 have cre:=restore_ct (W:=W) (F:=F) hE hr (by omega) (by omega)
 have crp:Ct Tryz.prog W 111 [.pointer (some ⟨d,0,none⟩),.int .i64 (logAt n:Nat),.int .i64 (logN n:Nat),.int .i64 (v:Nat)] [DiskP d D] (fun x:Option Addr × Nat=>.tuple #[.slice x.1 0 x.2,.nilIface]) (fun x=>[DiskP d D,rowP (.slice x.1 0 x.2) 9 1 0 []]):=by
  have h:=replay_ct (W:=W) (p:=d) (D:=D) hE8 hN (logAt n:Nat) (logN n:Nat) v (by omega) ho ⟨by omega,by omega,by omega,by omega,by omega,by omega,by omega⟩
  have g5':=g5 (((logN n:Nat):Int).toNat)
  rw [g5'] at h
  exact Ct.rowSl h
 have csi:=fun (q:Nat) (N:List Nd) (a:Option Addr) (b:Int) (hT:TbOk N a r)=>ssize_ct (W:=W) (p:=q) (b:=b) hT (by omega)
 clear g1 g2 g3 g4 g5 hru1 hru2 hG hhd
 have w1:IntKind.u64.wrap ((n:Nat):Int)=((n:Nat):Int):=u64_wrap _ (by omega)
 have w2:IntKind.u64.wrap ((v:Nat):Int)=((v:Nat):Int):=u64_wrap _ (by omega)
 obtain ⟨m,hm⟩:∃ m:Nat,((v:Nat):Int) % 2=(m:Nat):=⟨v % 2,by omega⟩
 have hm2:m<2:=by omega
 have hx:∀ z,(stC d z n 0 none life false)[0+1+0+((m:Nat):Int).toNat*1]? = some (.int .i64 (areaAt n v:Nat)):=fun z=>by
  unfold areaAt
  rcases (show m=0∨m=1 by omega) with rfl|rfl
  ·rw [if_pos (by omega)];rfl
  ·rw [if_neg (by omega)];rfl
 have qe:decide (((n:Nat):Int)=((n:Nat):Int))=true:=decide_eq_true rfl
 have qs:decide (((zBd r).length:Nat)≤((234*layA n:Nat):Int))=true:=decide_eq_true (by omega)
 refine Ct.enter Tryz.func69 rfl Tryz.ntmps69 (by simp) (fun R=>?_)
 repeat' (first|(refine zAd ?_;first|(refine zAc xE crp xP rfl (fun x=>?_);obtain ⟨xa,xc⟩:=x)|(refine zAc xE cre xP rfl (fun y=>?_);obtain ⟨q',⟨⟨N,a,b⟩,gN,hT⟩⟩:=y;dsimp only at gN hT ⊢)|(refine zAc xE car xP rfl (fun _=>?_))|(refine zAc xE cun xP rfl (fun _=>?_))|(refine zAc xE csz xP rfl (fun _=>?_))|(refine zAc xE (cd _) xP rfl (fun _=>?_))|(refine zAc xE (cup _) xP rfl (fun _=>?_))|(refine zAc xE (cro _ _) xP rfl (fun _=>?_))|(refine zAc xE cc xP rfl (fun _=>?_))|(refine zAc xE (cu _) xP rfl (fun _=>?_))|(refine zAc xE crd xP rfl (fun g=>?_))|(refine zAc xE cm xP rfl (fun _=>?_))|(refine zAc xE cr xP rfl (fun _=>?_)))|(refine zAm ?_;first|refine zAb (Ev_load rfl xS (hx _)) ?_|refine zAb (zAt rfl e15) ?_)|(refine zBu ?_;first|refine zAb (zAw rfl w2) ?_|refine zAb (zAw rfl w1) ?_)|(refine ek_rem ?_;refine zAb (Ev_rem_w rfl rfl (by omega) hm) ?_)|(refine zBg ?_;refine zAb (zAr rfl rfl qe) ?_)|refine xst ?_|(refine xsa ?_;intro _)|(refine xsb ?_ ?_ <;>intro _<;>try (exfalso;omega))|refine xsc ?_|(refine zAa (id:=8) plTFB0 (by kernel_rfl) (by kernel_rfl) ?_)|(refine zAa (id:=9) plTFB1 (by kernel_rfl) (by kernel_rfl) ?_)|(refine zAa (id:=12) plTFB2 (by kernel_rfl) (by kernel_rfl) ?_)|(refine zAa (id:=21) plTFB3 (by kernel_rfl) (by kernel_rfl) ?_)|refine zAp ?_ ?_|refine zAn rfl rfl rfl rfl rfl ?_ ?_|refine zAg ?_ ?_|exact Rech.nil|fail)
 refine zBv (fun _:Unit=>[(0,.pointer (some ⟨s,0,none⟩)),(3,.int .i64 (v:Nat)),(109,.int .i64 0),(110,.int .i64 0)]) (fun _=>[stP s d q' n 0 none life false,DiskP d D,tbP q' a b,arP N]++R) (fun _=>0) () xB (xN) (fun _=>?_)
 have ql:decide ((0:Int)<0)=false:=rfl
 repeat' (first|(refine zAd ?_;first|(refine zAc xE cun xP rfl (fun _=>?_))|(refine zAc xE (cro _ _) xP rfl (fun _=>?_))|(refine zAc xE (csi _ _ _ _ hT) xP rfl (fun _=>?_)))|(refine zAm ?_;refine zAb (zAt rfl e15) ?_)|(refine zAq ?_;refine zAb (zAe rfl rfl ql) ?_)|(refine ek_leq ?_;refine zAb (Ev_leqI_q rfl rfl qs) ?_)|refine xst ?_|(refine xsa ?_;intro _)|(refine xsb ?_ ?_ <;>intro _<;>try (exfalso;omega))|refine xsc ?_|(refine zAa (id:=8) plTFB0 (by kernel_rfl) (by kernel_rfl) ?_)|(refine zAa (id:=9) plTFB1 (by kernel_rfl) (by kernel_rfl) ?_)|(refine zAa (id:=12) plTFB2 (by kernel_rfl) (by kernel_rfl) ?_)|(refine zAa (id:=21) plTFB3 (by kernel_rfl) (by kernel_rfl) ?_)|refine zAp ?_ ?_|refine zAn rfl rfl rfl rfl rfl ?_ ?_|refine zAg ?_ ?_|exact Rech.nil|fail)
 all_goals (exact xdn (q',⟨(N,a,b),gN,hT⟩))
theorem sformatR_ct (_hE:ErrsOn L16 W F) (hE8:ErrsOn L8 W F) (hN:NibAt W) (h1:64≤n) (h2:n≤65536) (A:SP) (oa:Option Addr) (oc:Nat) (ops:List BOp) (hL:Lv W opC 3 A oa ops) (ho:ops.length≤100000000) (r:Rows) (hr:zAf [] ops=r) (hsn:(zBd r).length≤234*layA n):Ct Tryz.prog W 34 [.pointer (some ⟨d,0,none⟩),.slice oa ops.length oc] [A,DiskP d (Dsk.blank n)] (fun _:Unit=>.nilIface) (fun _=>[A,DiskP d (fldD (Dsk.blank n) n 1 r)]):=by
 have hA:=layA_le h2
 obtain ⟨f1,f2,f3,f4⟩:=lay_fit h1 0
 have hb:=blank_rest n (by omega) h2
 obtain ⟨t1,t2,t3⟩:=Holds.told hb (a:=0) (by show 0+2≤n;omega) (Holds.blank n 0 (by omega))
 obtain ⟨g1,g2,g3,g4,g5,g6,g7,g8⟩:=(Ready.blank h1 h2).fold r h1 h2 (by omega) hsn
 rw [if_pos rfl] at t1
 obtain ⟨ea,hea⟩:=errV_ne (E:=F) (show (14:Nat)≠0 by omega)
 have cr:Ct Tryz.prog W 61 [.pointer (some ⟨d,0,none⟩),.int .i64 0] [DiskP d (Dsk.blank n)] (fun _:Unit=>.tuple #[strV [],.int .i64 0,.iface 256 (.pointer (some ea))]) (fun _=>[DiskP d (Dsk.blank n)]):=by
  have:=sread_ct (W:=W) (p:=d) (D:=Dsk.blank n) hE8 hN h2 0
  have e0:slotE (Dsk.blank n) 0=14:=t1
  rw [e0,hea] at this
  have e1:slotS (Dsk.blank n) 0=[]:=by unfold slotS;rw [e0];rfl
  have e2:slotN (Dsk.blank n) 0=0:=by unfold slotN;rw [e0];rfl
  rw [e1,e2] at this
  exact this
 have csz:Ct Tryz.prog W 59 [.pointer (some ⟨d,0,none⟩)] [DiskP d (Dsk.blank n)] (fun _:Unit=>.int .i64 (n:Nat)) (fun _=>[DiskP d (Dsk.blank n)]):=size_ct (W:=W) (p:=d) (D:=Dsk.blank n)
 have cof:Ct Tryz.prog W 60 [.pointer (some ⟨d,0,none⟩)] [DiskP d (Dsk.blank n)] (fun _:Unit=>.bool false) (fun _=>[DiskP d (Dsk.blank n)]):=off_ct (W:=W) (p:=d) (D:=Dsk.blank n)
 have cov:=over_ct (W:=W) (d:=d) (D:=Dsk.blank n) h1 h2 rfl
 have cap:=fun q=>bapply_ct (W:=W) (N:=[]) (ta:=none) (r:=[]) (p:=q) (tb:=0) (TbOk.nil []) A oa oc ops hL (by simp;omega)
 rw [hr] at cap
 have csi:=fun (q:Nat) (N:List Nd) (a:Option Addr) (b:Int) (hT:TbOk N a r)=>ssize_ct (W:=W) (N:=N) (p:=q) (b:=b) hT (by omega)
 have cro:=fun s q=>sroom_ct (W:=W) (s:=s) (d:=d) (q:=q) (n:=n) 0 none (Dsk.blank n).life false h2
 have cfo:=fun (s q:Nat) (N:List Nd) (a:Option Addr) (b:Int) (hT:TbOk N a r)=>sfold_ct (W:=W) (s:=s) (d:=d) (q:=q) (b:=b) (D:=Dsk.blank n) hE8 hN h1 h2 0 (by omega) none (Dsk.blank n).life false hT rfl hsn (by show ([]:List (Nat × List UInt8)).length+65536<1073741823;simp) g1 g6 g7 g2 g8 g3.nn
 obtain ⟨D0,hD0⟩:∃ D0,D0=Dsk.blank n:=⟨_,rfl⟩
 obtain ⟨D2,hD2⟩:∃ D2,D2=fldD (Dsk.blank n) n 1 r:=⟨_,rfl⟩
 have q1:decide ((n:Int)<64)=false:=decide_eq_false (by omega)
 have q2:decide (((234*layA n:Nat):Int)<((zBd r).length:Nat))=false:=decide_eq_false (by omega)
 rw [← hD2] at cfo ⊢
 simp only [← hD0] at cr csz cof cov cro cfo ⊢
 clear hD0 hD2 g1 g2 g3 g4 g5 g6 g7 g8 t1 t2 t3 hb
 refine Ct.enter Tryz.func34 rfl Tryz.ntmps34 (by simp) (fun R=>?_)
 refine KJ.arNil ?_
 repeat' (first|(refine zAd ?_;first|(refine zAc xE (cfo _ _ _ _ _ hT) xP rfl (fun g=>?_))|(refine zAc xE (cro _ _) xP rfl (fun _=>?_))|(refine zAc xE (csi _ _ _ _ hT) xP rfl (fun _=>?_))|(refine zAc xE (cap _) xP rfl (fun x=>?_);obtain ⟨⟨N,a,b⟩,gN,hT⟩:=x;dsimp only at gN hT ⊢)|(refine zAc xE cov xP rfl (fun x=>?_);obtain ⟨s,q⟩:=x)|(refine zAc xE cr xP rfl (fun _=>?_))|(refine zAc xE cof xP rfl (fun _=>?_))|(refine zAc xE csz xP rfl (fun _=>?_)))|(refine zAq ?_;refine zAb (zAe rfl rfl q1) ?_)|(refine zBf ?_;refine zAb (zAk rfl rfl q2) ?_)|refine xst ?_|(refine xsa ?_;intro _)|(refine xsb ?_ ?_ <;>intro _<;>try (exfalso;omega))|refine xsc ?_|fail)
 all_goals (exact xdn ())
set_option maxRecDepth 100000 in
theorem sopenR_ct (hE:ErrsOn L16 W F) (hE8:ErrsOn L8 W F) (hN:NibAt W) (h1:64≤n) (h2:n≤65536) (hr:RisR r) (hsn:(zBd r).length≤234*layA n) (v:Nat) (hv:1≤v∧v+1≤1099511627776) (hG:Good n r v D) :
 Ct Tryz.prog W 35 [.pointer (some ⟨d,0,none⟩)] [DiskP d D] (fun x:Nat × (Nat × TbQ [] r) × Nat=>.tuple #[.pointer (some ⟨x.1,0,none⟩),.nilIface])
  (fun x=>[stP x.1 d x.2.1.1 n ((v+1:Nat):Int) (some ⟨x.2.2,0,none⟩) D.life false,DiskP d (fldD D n (v+1) r),tbP x.2.1.1 x.2.1.2.1.2.1 x.2.1.2.1.2.2,arP x.2.1.2.1.1,jouP x.2.2 d n (v+1) (fldD D n (v+1) r).life]):=by
 have hA:=layA_le (n:=n) (by omega)
 obtain ⟨f1,f2,f3,f4⟩:=lay_fit h1 0
 have hn:=hG.nn
 have ho:=hG.rest.calm.1
 have hu:=hG.rest.und
 obtain ⟨g1,g2,g3,g4,g5,g6,g7,g8⟩:=hG.ready.fold r h1 (by omega) hv.2 hsn
 have csz:Ct Tryz.prog W 59 [.pointer (some ⟨d,0,none⟩)] [DiskP d D] (fun _:Unit=>.int .i64 (n:Nat)) (fun _=>[DiskP d D]):=by
  have:=size_ct (W:=W) (p:=d) (D:=D)
  rw [hn] at this
  exact this
 have cof:Ct Tryz.prog W 60 [.pointer (some ⟨d,0,none⟩)] [DiskP d D] (fun _:Unit=>.bool false) (fun _=>[DiskP d D]):=by
  have:=off_ct (W:=W) (p:=d) (D:=D)
  rw [ho] at this
  exact this
 have cov:=over_ct (W:=W) (d:=d) (D:=D) h1 (by omega) hn
 have clo:=fun s q=>sloadR_ct (W:=W) (s:=s) (d:=d) (q:=q) (D:=D) hE hE8 hN h1 h2 hr hsn v ⟨hv.1,by omega⟩ D.life hG
 have cfo:=fun (s q:Nat) (N:List Nd) (a:Option Addr) (b:Int) (hT:TbOk N a r)=>sfold_ct (W:=W) (s:=s) (d:=d) (q:=q) (b:=b) (D:=D) hE8 hN h1 (by omega) v hv.2 none D.life false hT hn hsn (by rw [hu];simp) g1 g6 g7 g2 g8 g3.nn
 obtain ⟨D2,hD2⟩:∃ D2,D2=fldD D n (v+1) r:=⟨_,rfl⟩
 simp only [← hD2] at cfo ⊢
 have q1:decide ((n:Int)<64)=false:=decide_eq_false (by omega)
 clear hD2 g1 g2 g3 g4 g5 g6 g7 g8 hG
 refine Ct.enter Tryz.func35 rfl Tryz.ntmps35 (by simp) (fun R=>?_)
 refine KJ.lift0 ?_
 repeat' (first|(refine KJ.liftDeferF rfl (Evs.cons (v:=.pointer (some ⟨_,0,none⟩)) rfl Evs.nil) ?_)|(refine KJ.liftDeferV rfl rfl xE ?_)|(refine KJ.liftStp (by constructor) ?_)|(refine KJ.liftCondT rfl ?_)|(refine KJ.liftCondF rfl ?_)|(refine KJ.liftOper ?_)|(refine zBc ?_;first|(refine zAu (d:=3) rfl (fun ge=>?_))|(refine zAu (d:=2) rfl (fun gs=>?_)))|(refine zAd ?_;first|(refine zAc xE (cfo _ _ _ _ _ hT) xP rfl (fun gj=>?_))|(refine zAc xE (clo _ _) xP rfl (fun y=>?_);obtain ⟨q',⟨⟨N,a,b⟩,gN,hT⟩⟩:=y;dsimp only at gN hT ⊢)|(refine zAc xE cov xP rfl (fun x=>?_);obtain ⟨s,q⟩:=x)|(refine zAc xE cof xP rfl (fun _=>?_))|(refine zAc xE csz xP rfl (fun _=>?_)))|(refine ek_mkFunc ?_;refine zAb (Ev_mkFunc2 rfl rfl) ?_)|(refine zAq ?_;refine zAb (zAe rfl rfl q1) ?_)|refine xst ?_|(refine xsa ?_;intro _)|(refine xsb ?_ ?_ <;>intro _<;>try (exfalso;omega))|refine xsc ?_|(refine zAa (id:=2) plTFB4 (by kernel_rfl) (by kernel_rfl) ?_)|(refine KJ.liftDraws (id:=2) plTFB4 (by kernel_rfl) (by kernel_rfl) ?_)|(refine zAa (id:=4) plTFB4 (by kernel_rfl) (by kernel_rfl) ?_)|(refine KJ.liftDraws (id:=4) plTFB4 (by kernel_rfl) (by kernel_rfl) ?_)|(refine zAa (id:=9) plTFB5 (by kernel_rfl) (by kernel_rfl) ?_)|(refine KJ.liftDraws (id:=9) plTFB5 (by kernel_rfl) (by kernel_rfl) ?_)|refine zAp ?_ ?_|refine zAn rfl rfl rfl rfl rfl ?_ ?_|refine zAg ?_ ?_|exact Rech.nil|fail)
 all_goals exact KJ.liftDone2 (v1:=[.pointer (some ⟨ge,0,none⟩),.pointer (some ⟨gs,0,none⟩)]) (v2:=[.pointer (some ⟨ge,0,none⟩)]) rfl rfl (open1_ct ge gs) (caught_ct ge) xP xP (.inl rfl) rfl (Rvs.cell rfl inferInstance xS rfl (Rvs.cell rfl inferInstance xS rfl Rvs.nil)) (s,(q',⟨(N,a,b),gN,hT⟩),gj) (by rfl) (xN)
end
end Go.Proofs.YtgipenahkmbelaaGreatDoor
