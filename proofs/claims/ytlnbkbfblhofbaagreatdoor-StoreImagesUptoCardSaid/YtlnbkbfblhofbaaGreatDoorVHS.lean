/-
  StWL, Open13.
-/
import Derived.Test.YtlnbkbfblhofbaaGreatDoorVEG
import Derived.Test.YtlnbkbfblhofbaaGreatDoorVGU
set_option maxRecDepth 100000
set_option maxHeartbeats 64000000
namespace Go.Proofs.YtlnbkbfblhofbaaGreatDoor
open Go Go.RowKit
open Go.Proofs.Tryz
abbrev yTu:Pl:=(.op 0 (.op 1 (.op 2 (.op 3 (.op 4 (.op 8 (.ef 5 [8,0] (.op 6 (.op 7 (.ef 9 [] .nil))))))))))
abbrev yTv:Pl:=(.op 0 (.op 1 (.op 2 (.op 3 (.op 4 (.op 5 (.op 6 (.op 7 (.op 8 (.op 9 (.op 10 (.op 11 (.op 12 (.op 13 (.op 14 (.op 15 (.op 16 (.op 17 (.op 18 (.op 19 (.ef 20 [] (.op 21 (.op 22 (.op 23 (.op 24 (.op 25 .nil))))))))))))))))))))))))))
abbrev yTw:Pl:=(.op 0 (.op 1 (.op 2 (.op 3 (.op 4 (.op 5 (.op 6 (.op 7 (.op 8 (.op 9 (.op 10 (.op 11 (.op 12 (.op 13 (.op 14 (.ef 15 [] (.op 16 (.op 17 (.op 18 (.op 19 (.op 20 .nil)))))))))))))))))))))
abbrev yTx:Pl:=(.op 0 (.op 1 (.op 2 (.op 3 (.op 5 (.op 8 (.ef 4 [8,5] (.ef 6 [8] (.op 7 (.ef 9 [] .nil))))))))))
def lgR (r:Rows) (recs:List (List UInt8)) (i:Nat):Rows:=(recs.take i).foldl (fun r x=>yAJ r (yAE x).1) r
theorem yCa (r:Rows) {recs:List (List UInt8)} {i:Nat} {x:List UInt8} (h:recs[i]? = some x):lgR r recs (i+1)=yAJ (lgR r recs i) (yAE x).1:=by
 unfold lgR
 rw [List.take_add_one,h,List.foldl_append]
 rfl
def lrcC (s:List UInt8):List Value:=[strV s]
theorem yCZ:EncOk lrcC 1:=⟨fun _=>rfl,fun x=>by unfold lrcC;exact xO,zO⟩
theorem yEy (l:List (List UInt8)):l.map strV=l.flatMap lrcC:=by
 induction l with
 |nil=>rfl
 |cons a l ih=>rw [zLr,← ih];rfl
section
variable {W:World} {F:Nat→Addr} {q s d n g:Nat} {D:Dsk} {r:Rows}
theorem yM1 (hE:ErrsOn L16 W F) (hE8:ErrsOn L8 W F) (hN:NibAt W) (h1:64≤n) (h2:n≤65536) (hr:RisR r) (hsn:(yAh r).length≤234*yAu n) (v:Nat) (hv:1≤v∧v≤1099511627776) (life:Int) (hDn:D.n=n) (ho:D.off=false) (hG:yA9 D 0=0∧yBC D 0=v∧yBt D 0=yBd n (yAh r).length∧yBH D (yAt n v) (yAu n) v (yAh r).length=(yAh r,0))
 (recs:List (List UInt8)) (g5:yEY D (yAK n:Nat) (yA2 n:Nat) v ((((yA2 n:Nat):Int).toNat)+1) 0 []=recs) (hdec:∀ x ∈ recs,(yAE x).2=0∧x.length≤4398046511104) (hrl2:∀ i x,recs[i]? = some x→(lgR r recs i).length+(yAE x).1.length≤144115188075855872) (hcn:recs.length≤4611686018427387904) (hfin:(yAh (lgR r recs recs.length)).length≤234*yAu n) :
 Ct prog W 42 [zPp s] [stP s d q n 0 none life false,DiskP d D] (fun _:Nat × TbQ [] (lgR r recs recs.length)=>.tuple #[]) (fun x=>[stP s d x.1 n (v:Nat) none life false,DiskP d D,tbP x.1 x.2.1.2.1 x.2.1.2.2,arP x.2.1.1]):=by
 have e1:W.cell? ⟨7,0,none⟩=some (yAr F 1):=hE.at_ 1 zX
 have e2:W.cell? ⟨8,0,none⟩=some (yAr F 2):=hE.at_ 2 zX
 have e3:W.cell? ⟨9,0,none⟩=some (yAr F 3):=hE.at_ 3 zX
 have e5:W.cell? ⟨11,0,none⟩=some (yAr F 5):=hE.at_ 5 zX
 have e15:W.cell? ⟨17,0,none⟩=some (yAr F 15):=hE.at_ 15 zX
 obtain ⟨f1,f2,f3,f4⟩:=yAO h1 v
 have hA:=yA8 (n:=n) zO
 obtain ⟨g1,g2,g3,g4⟩:=hG
 obtain ⟨L,hL⟩:∃ L,L=(yAh r).length:=⟨_,rfl⟩
 rw [← hL] at g3 g4 hsn
 have hsn2:(yAh r).length≤234*yAu n:=zO
 have hrl:=(yDk r zO).2
 have hLp:=yB9 L
 have hLl:=yBO L
 have hvp:=yB9 n
 have hvn:=yBO n
 obtain ⟨hd,hhd⟩:∃ hd,hd=yBd n L:=⟨_,rfl⟩
 have hdl:hd.length=(vu n).length+(vu L).length:=by rw [hhd];unfold yBd;rw [zLa]
 have hru1:ru (hd.drop 0)=.ok n (vu L):=by
  rw [zLo,hhd]
  exact yEJ n zO (vu L)
 have hru2:ru (hd.drop (vu n).length)=.ok L []:=by
  rw [hhd]
  unfold yBd
  rw [List.drop_left]
  have:=yEJ L zO []
  rwa [zLs] at this
 have cr:CtU prog W 27 [zPp d,.int .i64 0] [DiskP d D] (.tuple #[strV hd,.int .i64 (v:Nat),.nilIface]) [DiskP d D]:=by
  have:=yCE (W:=W) (p:=d) (D:=D) hE8 hN zO 0
  rw [g1,g2,g3,← hhd] at this
  exact this
 have crd:=yDb (W:=W) hd
 have cu:∀ g,CtU prog W 85 [zPp g] [rdP g hd 0] (.tuple #[.int .u64 (n:Nat),.nilIface]) [rdP g hd (vu n).length]:=fun g=>by
  have:=yDz (W:=W) (F:=F) (p:=g) (s:=hd) (a:=0) zO zO e1 e2 (.ok n (vu L)) hru1
  rw [zLq] at this
  exact this
 have cup:∀ g,CtU prog W 87 [zPp g,.int .i64 (234*yAu n:Nat)] [rdP g hd (vu n).length] (.tuple #[.int .i64 (L:Nat),.nilIface]) [rdP g hd ((vu n).length+(vu L).length)]:=fun g=>by
  have:=yDd (W:=W) (F:=F) (p:=g) (s:=hd) (a:=(vu n).length) (234*yAu n) zO zO zO e1 e2 e3 (.ok L []) hru2
  have u1:yNm (234*yAu n) (.ok L [])=L:=(if_neg zO:(if 234*yAu n<L then 0 else L)=L)
  have u2:yGy (234*yAu n) (.ok L [])=0:=(if_neg zO:(if 234*yAu n<L then 3 else 0)=0)
  have u3:yNn (234*yAu n) (.ok L [])=(vu L).length:=(if_neg zO:(if 234*yAu n<L then 0 else (vu L).length)=(vu L).length)
  rw [u1,u2,u3] at this
  exact this
 have cd:∀ g,CtU prog W 88 [zPp g] [rdP g hd ((vu n).length+(vu L).length)] .nilIface [rdP g hd ((vu n).length+(vu L).length)]:=fun g=>by
  have:=yDc (W:=W) (F:=F) (p:=g) (s:=hd) (a:=(vu n).length+(vu L).length) zO zO e5
  rw [if_neg zO] at this
  exact this
 have cm:=yFv (W:=W)
 have cc:=yCq (W:=W) hE
 have cun:=yCC (W:=W) (yAr F 15)
 have cro:=fun q v=>yCr (W:=W) (s:=s) (d:=d) (q:=q) (n:=n) v none life false zO
 have csz:CtU prog W 25 [zPp d] [DiskP d D] (.int .i64 (n:Nat)) [DiskP d D]:=by
  have:=yBs (W:=W) (p:=d) (D:=D)
  rw [hDn] at this
  exact this
 have car:CtU prog W 90 [zPp d,.int .i64 (yAt n v:Nat),.int .i64 (yAu n:Nat),.int .u64 (v:Nat),.int .i64 (L:Nat)] [DiskP d D] (.tuple #[strV (yAh r),.nilIface]) [DiskP d D]:=by
  have:=yFN (W:=W) (p:=d) (D:=D) hE8 e15 hN zO (yAt n v:Nat) (yAu n:Nat) (v:Nat) (L:Nat)
  rw [g4] at this
  exact this
 have cre:=yFS (W:=W) (F:=F) hE hr zO zO
 have crp:Ct prog W 92 [zPp d,.int .i64 (yAK n:Nat),.int .i64 (yA2 n:Nat),.int .i64 (v:Nat)] [DiskP d D] (fun x:Option Addr × Nat=>.tuple #[.slice x.1 recs.length x.2,.nilIface]) (fun x=>[DiskP d D,lsP lrcC 9 1 (.slice x.1 recs.length x.2) recs]):=by
  have h:=yG4 (W:=W) (p:=d) (D:=D) hE8 hN (yAK n:Nat) (yA2 n:Nat) v zO ho ⟨zO,zO,zO,zO,zO,zO,zO⟩
  rw [g5,yEy] at h
  exact Ct.rowSl h
 have csi:=fun (q:Nat) (N:List Nd) (a:Option Addr) (b:Int) (hT:TbOk N a (lgR r recs recs.length))=>yEd (W:=W) (p:=q) (b:=b) hT zO
 clear g1 g2 g3 g4 g5 hru1 hru2 hhd
 have w1:IntKind.u64.wrap ((n:Nat):Int)=((n:Nat):Int):=yAo _ zO
 have w2:IntKind.u64.wrap ((v:Nat):Int)=((v:Nat):Int):=yAo _ zO
 obtain ⟨m,hm⟩:∃ m:Nat,((v:Nat):Int) % 2=(m:Nat):=⟨v % 2,zO⟩
 have hm2:m<2:=zO
 have hx:∀ z,(stC d z n 0 none life false)[0+1+0+((m:Nat):Int).toNat*1]? = some (.int .i64 (yAt n v:Nat)):=fun z=>by
  unfold yAt
  rcases (show m=0∨m=1 by omega) with rfl|rfl
  ·rw [if_pos zO];rfl
  ·rw [if_neg zO];rfl
 have qe:decide (((n:Nat):Int)=((n:Nat):Int))=true:=zY rfl
 have qs:decide (((yAh (lgR r recs recs.length)).length:Nat)≤((234*yAu n:Nat):Int))=true:=zY zO
 refine Ct.enter func42 rfl ntmps42 zW (fun R=>?_)
 repeat' (first|(refine yAb ?_;first|refine xca crp fun x=>?_;obtain ⟨xa,xc⟩:=x|refine xca cre fun y=>?_;obtain ⟨q',⟨⟨N,a,b⟩,gN,hT⟩⟩:=y;dsimp only at gN hT ⊢|refine xca car fun _=>?_|refine xca cun fun _=>?_|refine xca csz fun _=>?_|refine xca (cd _) fun _=>?_|refine xca (cup _) fun _=>?_|refine xca (cro _ _) fun _=>?_|refine xca cc fun _=>?_|refine xca (cu _) fun _=>?_|refine xca crd fun g=>?_|refine xca cm fun _=>?_|refine xca cr fun _=>?_)|(refine yAj ?_;first|refine yAa (yDm rfl xS (hx _)) ?_|refine yAa (yAn rfl e15) ?_)|refine yAa (yAg rfl w2) ?_|refine yAa (yAg rfl w1) ?_|refine yAa (yAZ rfl rfl zO hm) ?_|refine yAa (yAf rfl rfl qe) ?_|refine xst ?_|refine xsa ?_;intro _|refine xsb ?_ ?_<;>intro _<;>try omega|refine xsc ?_|refine xdr 8 yTu ?_|refine xdr 9 yTv ?_|refine xdr 12 yTw ?_|refine xdr 21 yTx ?_|refine xsd ?_ ?_|exact Rech.nil|fail)
 have hL:Lv W lrcC 1 (lsP lrcC 9 1 (.slice xa recs.length xc) recs) xa recs:=Lv.own yCZ rfl
 refine yAz (fun x:{x:Nat × List Nd × Option Addr × Int//x.1≤recs.length∧TbOk x.2.1 x.2.2.1 (lgR r recs x.1)}=>[(0,zPp s),(3,.int .i64 (v:Nat)),(108,.slice xa recs.length xc),(109,.int .i64 (recs.length:Nat)),(110,.int .i64 (x.1.1:Nat))])
  (fun x=>[stP s d q' n 0 none life false,DiskP d D,tbP q' x.1.2.2.1 x.1.2.2.2,arP x.1.2.1,lsP lrcC 9 1 (.slice xa recs.length xc) recs]++R) (fun x=>recs.length-x.1.1) ⟨(0,N,a,b),zLA _,hT⟩ xB (xN) (fun ⟨(i,N2,a2,b2),hi,hT2⟩=>?_)
 dsimp only at hi hT2 ⊢
 by_cases hlt:i<recs.length
 ·have ql:decide ((i:Int)<(recs.length:Nat))=true:=zY zO
  obtain ⟨x,hx0⟩:∃ s,recs[i]? = some s:=⟨_,zLb hlt⟩
  refine KJ.lvSome hL xS zO (fun b0 of hab=>?_)
  subst hab
  have hoff:of+Int.toNat (i:Int)*1=of+i*1+0:=zW
  have hv0:(lrcC x)[0]? = some (strV x):=rfl
  have hdx:=hdec x (zLk hx0)
  have cde:=yFU (W:=W) (F:=F) x hdx.2 hE
  rw [hdx.1] at cde
  have hnx:=yCa r hx0
  have cba:=fun ya yc=>yCY (W:=W) (p:=q') (tb:=b2) hT2 _ ya yc (yAE x).1 (Lv.own (e:=60) (c:=yc) yBy rfl) (hrl2 i x hx0)
  rw [← hnx] at cba
  have hnn:yAr F 0=.nilIface:=rfl
  rw [hnn] at cde
  obtain ⟨os,hos⟩:∃ os,os=(yAE x).1:=⟨_,rfl⟩
  rw [← hos] at cde cba
  repeat' (first|(refine yAb ?_;first|refine xca (cba _ _) fun y=>?_;obtain ⟨⟨N3,a3,b3⟩,g3,t3⟩:=y;dsimp only at g3 t3 ⊢|refine xca cc fun _=>?_|refine xca cde fun y=>?_;obtain ⟨ya,yc⟩:=y)|refine yAj ?_;refine yAa (yBh yCZ hL rfl rfl xS hoff hx0 hv0) ?_|refine yAa (yAd (r:=((i+1:Nat):Int)) rfl rfl zO zO) ?_|refine yAa (yAc rfl rfl ql) ?_|refine xst ?_|refine xsa ?_;intro _|refine xsb ?_ ?_<;>intro _<;>try omega|refine xsc ?_|refine xdr 8 yTu ?_|refine xdr 9 yTv ?_|refine xdr 12 yTw ?_|refine xdr 21 yTx ?_|refine xsd ?_ ?_|exact Rech.nil|fail)
  all_goals refine yAp ⟨(i+1,N3,a3,b3),hlt,t3⟩ (by show recs.length-(i+1)<recs.length-i;omega) xB (xN)
 have ql:decide ((i:Int)<(recs.length:Nat))=false:=zZ zO
 obtain rfl:i=recs.length:=zO
 repeat' (first|(refine yAb ?_;first|refine xca cun fun _=>?_|refine xca (cro _ _) fun _=>?_|refine xca (csi _ _ _ _ hT2) fun _=>?_)|refine yAj ?_;refine yAa (yAn rfl e15) ?_|refine yAa (yAc rfl rfl ql) ?_|refine yAa (yAS rfl rfl qs) ?_|refine xst ?_|refine xsa ?_;intro _|refine xsb ?_ ?_<;>intro _<;>try omega|refine xsc ?_|refine xdr 8 yTu ?_|refine xdr 9 yTv ?_|refine xdr 12 yTw ?_|refine xdr 21 yTx ?_|refine xsd ?_ ?_|exact Rech.nil|fail)
 all_goals (exact xdn (q',⟨(N2,a2,b2),(fun y h=>nomatch h),hT2⟩))
end
section
open Go Go.RowKit Go.ChangeShapes Go.WideShapes Go.Deep
theorem yOv:prog.cellsOf 4=1:=zK
theorem yM2:prog.cellsOf 60=3:=zK
instance:Inhabited BOp:=⟨⟨false,[],[]⟩⟩
section
variable {H:Type} {enc:TypeId × Value→H} {W:World} {base:Nat} {held:Bool}
theorem yOw {n:Nat} {cs:List Value} {x:DataW H × List MemPlace} (h:DataW.trod enc prog W base (fun _=>true) held n 22 cs=some x) :
 ∃ (l:List BOp) (ad:Option Addr) (c:Nat),cs=[.slice ad l.length c]∧xAr W opC 3 (.slice ad l.length c) l∧l.length≤Rows.uptoBulk x.1∧l.length≤c∧
  ∀ o ∈ l,o.key.length≤Rows.uptoBulk x.1∧o.val.length≤Rows.uptoBulk x.1:=by
 obtain ⟨l,ad,c,e,hb,hlc,-,-,hx,hz⟩:=yU2 (α:=BOp) underlying22 yM2 zO (fun s cs D=>cs=opC s∧s.key.length≤Rows.uptoBulk D∧s.val.length≤Rows.uptoBulk D) (fun n cs x hx=>by
  obtain ⟨xs,m,_,rfl,hl,hxl,hf⟩:=DataW.trod_struct underlying60 hx
  rw [yM2] at hl
  match cs,hl with
  |[c0,c1,c2],_=>
   match xs,hxl with
   |[y0,y1,y2],_=>
    have h0:DataW.trod enc prog W base (fun _=>true) held m 4 [c0]=some y0:=yLl hf 0 rfl yOv
    have h1:DataW.trod enc prog W base (fun _=>true) held m 9 [c1]=some y1:=yLl hf 1 rfl yKz
    have h2:DataW.trod enc prog W base (fun _=>true) held m 9 [c2]=some y2:=yLl hf 2 rfl yKz
    obtain ⟨b0,e0,-⟩:=DataW.trod_bool underlying4 h0
    obtain ⟨s1,e1,f1⟩:=DataW.trod_string underlying9 h1
    obtain ⟨s2,e2,f2⟩:=DataW.trod_string underlying9 h2
    simp only [List.cons.injEq,and_true] at e0 e1 e2
    subst e0;subst e1;subst e2
    have pl:=ySt (H:=H) [y0.1,y1.1,y2.1]
    have m1:=yNT (H:=H) (d:=y1.1) (l:=[y0.1,y1.1,y2.1]) zW
    have m2:=yNT (H:=H) (d:=y2.1) (l:=[y0.1,y1.1,y2.1]) zW
    have n1:s1.data.toList.length≤Rows.uptoBulk y1.1:=by rw [f1.1,yI3];omega
    have n2:s2.data.toList.length≤Rows.uptoBulk y2.1:=by rw [f2.1,yI3];omega
    exact ⟨⟨b0,s1.data.toList,s2.data.toList⟩,rfl,Nat.le_trans n1 (Nat.le_trans m1 pl),Nat.le_trans n2 (Nat.le_trans m2 pl)⟩) h
 refine ⟨l,ad,c,e,⟨ad,c,rfl,fun hne=>?_⟩,hb,hlc,fun o ho=>?_⟩
 ·obtain ⟨b,o,h1,h2,h3⟩:=hx hne
  refine ⟨b,o,h1,h2,fun i x hx=>?_⟩
  obtain ⟨cs,D,⟨rfl,_,_⟩,_,_,h4⟩:=h3 i x hx
  exact h4
 ·obtain ⟨i,hi,he⟩:=List.mem_iff_getElem.1 ho
  obtain ⟨b,o',h1,h2,h3⟩:=hx (by intro e;rw [e] at ho;cases ho)
  obtain ⟨cs,D,⟨_,k1,k2⟩,k3,_,_⟩:=h3 i o (by rw [zLb hi,he])
  exact ⟨Nat.le_trans k1 k3,Nat.le_trans k2 k3⟩
theorem yVF {r:Reach} {b0:Nat} {v:Value} {d:DataW H} {p:List MemPlace} (hv:Value.okWide prog W r b0 22 v) (h:DataW.Trod enc prog W base (fun _=>true) held 22 v d p) (hd:Rows.uptoBulk d≤1048576) :
 ∃ (l:List BOp) (ad:Option Addr) (c:Nat),v=.slice ad l.length c∧xAr W opC 3 (.slice ad l.length c) l∧l.length≤c∧OpsFit l:=by
 obtain ⟨n,hf⟩:=yNV underlying22 hv h
 obtain ⟨l,ad,c,e,h1,h2,h3,h4⟩:=yOw hf
 simp only [List.cons.injEq,and_true] at e
 exact ⟨l,ad,c,e,h1,h3,Nat.le_trans h2 hd,fun o ho=>⟨Nat.le_trans (h4 o ho).1 hd,Nat.le_trans (h4 o ho).2 hd⟩⟩
end
end
end Go.Proofs.YtlnbkbfblhofbaaGreatDoor
