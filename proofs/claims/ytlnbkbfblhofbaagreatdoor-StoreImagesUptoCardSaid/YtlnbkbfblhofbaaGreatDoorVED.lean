/-
  StW9, StWA.
-/
import Derived.Test.YtlnbkbfblhofbaaGreatDoorVER
set_option maxRecDepth 100000
set_option maxHeartbeats 64000000
namespace Go.Proofs.YtlnbkbfblhofbaaGreatDoor
open Go Go.RowKit
open Go.Proofs.Tryz
abbrev yWD:Pl:=(.op 0 (.op 1 (.op 2 (.op 3 (.op 4 (.op 8 (.ef 5 [8,0] (.op 6 (.op 7 (.ef 9 [] .nil))))))))))
abbrev yWE:Pl:=(.op 0 (.op 1 (.op 2 (.op 3 (.op 4 (.op 5 (.op 6 (.op 7 (.op 8 (.op 9 (.op 10 (.op 11 (.op 12 (.op 13 (.op 14 (.op 15 (.op 16 (.op 17 (.op 18 (.op 19 (.ef 20 [] (.op 21 (.op 22 (.op 23 (.op 24 (.op 25 .nil))))))))))))))))))))))))))
abbrev yWF:Pl:=(.op 0 (.op 1 (.op 2 (.op 3 (.op 4 (.op 5 (.op 6 (.op 7 (.op 8 (.op 9 (.op 10 (.op 11 (.op 12 (.op 13 (.op 14 (.ef 15 [] (.op 16 (.op 17 (.op 18 (.op 19 (.op 20 .nil)))))))))))))))))))))
abbrev yWG:Pl:=(.op 0 (.op 1 (.op 2 (.op 3 (.op 5 (.op 8 (.ef 4 [8,5] (.ef 6 [8] (.op 7 (.ef 9 [] .nil))))))))))
abbrev yPt:Pl:=(.op 0 (.ef 1 [0] (.ef 2 [] .nil)))
abbrev yWH:Pl:=(.op 0 (.op 1 (.ef 2 [0] (.ef 3 [] (.ef 4 [] .nil)))))
section
variable {W:World} {F:Nat→Addr} {r:Rows}
theorem yFS (hE:ErrsOn L16 W F) (hr:RisR r) (hl:(yAh r).length≤4611686018427387904) (hl2:r.length≤144115188075855872) :
 Ct prog W 91 [strV (yAh r)] [] (fun x:Nat × TbQ [] r=>.pointer (some ⟨x.1,0,none⟩)) (fun x=>[tbP x.1 x.2.1.2.1 x.2.1.2.2,arP x.2.1.1]):=by
 have e1:W.cell? ⟨7,0,none⟩=some (yAr F 1):=hE.at_ 1 zX
 have e2:W.cell? ⟨8,0,none⟩=some (yAr F 2):=hE.at_ 2 zX
 have e3:W.cell? ⟨9,0,none⟩=some (yAr F 3):=hE.at_ 3 zX
 have e5:W.cell? ⟨11,0,none⟩=some (yAr F 5):=hE.at_ 5 zX
 have e15:W.cell? ⟨17,0,none⟩=some (yAr F 15):=hE.at_ 15 zX
 have hrow:=fun i p (h:r[i]? = some p)=>yHc h hl
 obtain ⟨hh1,hh2⟩:=yDk r hl
 have hp0:yGs r 0=0+(vu r.length).length:=by rw [yMT];omega
 have hpe:=yLG r
 have hpn:=fun i p (h:r[i]? = some p)=>yJr h
 have hvl:=yBO r.length
 have hv2:(vu r.length).length≤(yAh r).length:=by unfold yAh;rw [zLa];omega
 obtain ⟨S,hS⟩:∃ S,S=yAh r:=⟨_,rfl⟩
 rw [← hS] at hl hrow hh1 hh2 hpe hv2 ⊢
 clear hS
 have crd:=yDb (W:=W) S
 have cup:∀ g,CtU prog W 87 [zPp g,.int .i64 (S.length:Nat)] [rdP g S 0] (.tuple #[.int .i64 (r.length:Nat),.nilIface]) [rdP g S (yGs r 0)]:=fun g=>by
  have:=yDd (W:=W) (F:=F) (p:=g) (s:=S) (a:=0) S.length zO zO zO e1 e2 e3 (.ok r.length (r.flatMap rowB)) hh1
  have u1:yNm S.length (.ok r.length (r.flatMap rowB))=r.length:=(if_neg zO:(if S.length<r.length then 0 else r.length)=r.length)
  have u2:yGy S.length (.ok r.length (r.flatMap rowB))=0:=(if_neg zO:(if S.length<r.length then 3 else 0)=0)
  have u3:yNn S.length (.ok r.length (r.flatMap rowB))=(vu r.length).length:=(if_neg zO:(if S.length<r.length then 0 else (vu r.length).length)=(vu r.length).length)
  rw [u1,u2,u3,← hp0] at this
  exact this
 have cd:∀ g,CtU prog W 88 [zPp g] [rdP g S S.length] .nilIface [rdP g S S.length]:=fun g=>by
  have:=yDc (W:=W) (F:=F) (p:=g) (s:=S) (a:=S.length) (Nat.le_refl _) zO e5
  rw [if_neg zO] at this
  exact this
 have cc:=yCq (W:=W) hE
 have cun:=yCC (W:=W) (yAr F 15)
 have ct:=yOj (W:=W)
 refine Ct.enter func91 rfl ntmps91 zW (fun R=>?_)
 refine KJ.arNil ?_
 repeat' (first|(refine yAb ?_;first|refine xca ct fun q=>?_|refine xca cc fun _=>?_|refine xca (cup _) fun _=>?_|refine xca crd fun g=>?_)|refine xst ?_|refine xsa ?_;intro _|refine xsb ?_ ?_<;>intro _<;>try omega|refine xsc ?_|fail)
 refine yAz (fun x:{x:Nat × List UInt8 × List Nd × Option Addr × Int//x.1≤r.length∧TbOk x.2.2.1 x.2.2.2.1 (r.take x.1)∧∀ i p,x.1=i+1→r[i]? = some p→x.2.1=p.1}=>[(0,strV S),(3,zPp g),(6,zPp q),(7,strV x.1.2.1),(24,.int .i64 (r.length:Nat)),(25,.int .i64 (x.1.1:Nat))])
  (fun x=>[tbP q x.1.2.2.2.1 x.1.2.2.2.2,arP x.1.2.2.1,rdP g S (yGs r x.1.1)]++R) (fun x=>r.length-x.1.1) ⟨(0,[],[],none,0),zLA _,TbOk.nil [],fun i p h=>by cases h⟩ xB (xN) (fun ⟨(i,last,N,a,b),hi,hT,hlast⟩=>?_)
 dsimp only at hi hT hlast ⊢
 by_cases hlt:i<r.length
 rotate_left
 ·have ql:decide ((i:Int)<(r.length:Nat))=false:=zZ zO
  obtain rfl:i=r.length:=zO
  rw [List.take_length] at hT
  rw [hpe]
  repeat' (first|(refine yAb ?_;first|refine xca cc fun _=>?_|refine xca (cd _) fun _=>?_)|refine yAa (yAc rfl rfl ql) ?_|refine xst ?_|refine xsa ?_;intro _|refine xsb ?_ ?_<;>intro _<;>try omega|refine xsc ?_|fail)
  all_goals (exact xdn (q,⟨(N,a,b),(fun y h=>nomatch h),hT⟩))
 have ql:decide ((i:Int)<(r.length:Nat))=true:=zY zO
 obtain ⟨p,hp⟩:∃ p,r[i]? = some p:=⟨_,zLb hlt⟩
 obtain ⟨t,u,h1,h2,h3⟩:=hrow i p hp
 have hn:=hpn i p hp
 have hlen:(r.take i).length≤144115188075855872:=by rw [zLg];omega
 have hput:=yVu hr hp
 have hnx:∀ j y,i+1=j+1→r[j]? = some y→p.1=y.1:=fun j y e h=>by
  obtain rfl:i=j:=zO
  rw [hp] at h
  cases h;rfl
 have hless:0<i→Op.bytesLess last p.1=true:=fun h0=>by
  obtain ⟨j,rfl⟩:∃ j,i=j+1:=⟨i-1,zO⟩
  obtain ⟨y,hy⟩:∃ y,r[j]? = some y:=⟨_,zLb (show j<r.length by omega)⟩
  rw [hlast j y rfl hy]
  exact yPp hr hy hp
 obtain ⟨k,val⟩:=p
 dsimp only at h1 h2 h3 hn hput hless hnx
 have cx1:CtU prog W 136 [zPp g,.int .i64 (S.length:Nat)] [rdP g S (yGs r i)] (.tuple #[strV k,.nilIface]) [rdP g S (yGs r i+(tx k).length)]:=
  yDA (W:=W) (F:=F) (p:=g) (s:=S) (a:=yGs r i) S.length zO zO zO e1 e2 e3 _ h1
 have cx2:CtU prog W 136 [zPp g,.int .i64 (S.length:Nat)] [rdP g S (yGs r i+(tx k).length)] (.tuple #[strV val,.nilIface]) [rdP g S (yGs r (i+1))]:=by
  rw [hn]
  exact yDA (W:=W) (F:=F) (p:=g) (s:=S) (a:=yGs r i+(tx k).length) S.length zO zO zO e1 e2 e3 _ h2
 have cp:=yOl (W:=W) (p:=q) (b:=b) (k:=k) (v:=val) hT zO
 rw [hput] at cp
 obtain ⟨x0,hx0⟩:∃ x,x=yGs r i:=⟨_,rfl⟩
 obtain ⟨x1,hx1⟩:∃ x,x=x0+(tx k).length:=⟨_,rfl⟩
 rw [← hx0] at cx1 cx2 ⊢
 rw [← hx1] at cx1 cx2
 clear hx0 hx1 h1 h2 h3 hn hput hrow hpn
 by_cases h0:i=0
 ·have q0:decide (((i:Nat):Int)=0)=true:=zY zO
  repeat' (first|(refine yAb ?_;first|refine xca cp fun y=>?_;obtain ⟨⟨N1,a1,b1⟩,g1,t1⟩:=y;dsimp only at g1 t1 ⊢|refine xca cun fun _=>?_|refine xca cc fun _=>?_|refine xca cx2 fun _=>?_|refine xca cx1 fun _=>?_)|refine yAj ?_;refine yAa (yAn rfl e15) ?_|refine yAa (yAd (r:=((i+1:Nat):Int)) rfl rfl zO zO) ?_|refine yAa (yAf rfl rfl q0) ?_|refine yAa (yAc rfl rfl ql) ?_|refine xst ?_|refine xsa ?_;intro _|refine xsb ?_ ?_<;>intro _<;>try omega|refine xsc ?_|fail)
  all_goals refine yAp ⟨(i+1,k,N1,a1,b1),hlt,t1,hnx⟩ (by show r.length-(i+1)<r.length-i;omega) xB (xN)
 ·have q0:decide (((i:Nat):Int)=0)=false:=zZ zO
  have hl0:=hless zO
  have hne:decide (k=last)=false:=zZ (fun e=>by rw [e,yDg] at hl0;cases hl0)
  have qs:(!(Op.bytesLess k last || decide (k=last)))=true:=by rw [yFi hl0,hne];rfl
  repeat' (first|(refine yAb ?_;first|refine xca cp fun y=>?_;obtain ⟨⟨N1,a1,b1⟩,g1,t1⟩:=y;dsimp only at g1 t1 ⊢|refine xca cun fun _=>?_|refine xca cc fun _=>?_|refine xca cx2 fun _=>?_|refine xca cx1 fun _=>?_)|refine yAj ?_;refine yAa (yAn rfl e15) ?_|refine yAa (yAd (r:=((i+1:Nat):Int)) rfl rfl zO zO) ?_|refine yAa (yAf rfl rfl q0) ?_|refine yAa (yAc rfl rfl ql) ?_|refine yAa (yFk rfl rfl qs) ?_|refine xst ?_|refine xsa ?_;intro _|refine xsb ?_ ?_<;>intro _<;>try omega|refine xsc ?_|fail)
  all_goals refine yAp ⟨(i+1,k,N1,a1,b1),hlt,t1,hnx⟩ (by show r.length-(i+1)<r.length-i;omega) xB (xN)
end
section
variable {W:World} {F:Nat→Addr} {q s d n g:Nat} {D:Dsk} {r:Rows}
theorem yTa (hE:ErrsOn L16 W F) (hE8:ErrsOn L8 W F) (hN:NibAt W) (h1:64≤n) (h2:n≤65536) (hr:RisR r) (hsn:(yAh r).length≤234*yAu n) (v:Nat) (hv:1≤v∧v≤1099511627776) (life:Int) (hG:Good n r v D) :
 Ct prog W 42 [zPp s] [stP s d q n 0 none life false,DiskP d D] (fun _:Nat × TbQ [] r=>.tuple #[]) (fun x=>[stP s d x.1 n (v:Nat) none life false,DiskP d D,tbP x.1 x.2.1.2.1 x.2.1.2.2,arP x.2.1.1]):=by
 have e1:W.cell? ⟨7,0,none⟩=some (yAr F 1):=hE.at_ 1 zX
 have e2:W.cell? ⟨8,0,none⟩=some (yAr F 2):=hE.at_ 2 zX
 have e3:W.cell? ⟨9,0,none⟩=some (yAr F 3):=hE.at_ 3 zX
 have e5:W.cell? ⟨11,0,none⟩=some (yAr F 5):=hE.at_ 5 zX
 have e15:W.cell? ⟨17,0,none⟩=some (yAr F 15):=hE.at_ 15 zX
 obtain ⟨f1,f2,f3,f4⟩:=yAO h1 v
 have hA:=yA8 (n:=n) zO
 have hDn:=hG.nn
 have ho:=hG.rest.calm.1
 obtain ⟨g1,g2,g3,g4⟩:=hG.read h1 h2 hv hsn
 have g5:=hG.logE h1 h2 hv
 obtain ⟨L,hL⟩:∃ L,L=(yAh r).length:=⟨_,rfl⟩
 rw [← hL] at g3 g4 hsn
 have hsn2:(yAh r).length≤234*yAu n:=zO
 have hrl:=(yDk r zO).2
 have hLp:=yB9 L
 have hLl:=yBO L
 have hvp:=yB9 n
 have hvn:=yBO n
 obtain ⟨hd,hhd⟩:∃ hd,hd=yBd n L:=⟨_,rfl⟩
 have hdl:hd.length=(vu n).length+(vu L).length:=by rw [hhd];unfold yBd;rw [zLa]
 have hru1:ru (hd.drop 0)=.ok n (vu L):=by
  rw [zLo,hhd]
  exact yEJ n zO (vu L)
 have hru2:ru (hd.drop (vu n).length)=.ok L []:=by
  rw [hhd]
  unfold yBd
  rw [List.drop_left]
  have:=yEJ L zO []
  rwa [zLs] at this
 have cr:CtU prog W 27 [zPp d,.int .i64 0] [DiskP d D] (.tuple #[strV hd,.int .i64 (v:Nat),.nilIface]) [DiskP d D]:=by
  have:=yCE (W:=W) (p:=d) (D:=D) hE8 hN zO 0
  rw [g1,g2,g3,← hhd] at this
  exact this
 have crd:=yDb (W:=W) hd
 have cu:∀ g,CtU prog W 85 [zPp g] [rdP g hd 0] (.tuple #[.int .u64 (n:Nat),.nilIface]) [rdP g hd (vu n).length]:=fun g=>by
  have:=yDz (W:=W) (F:=F) (p:=g) (s:=hd) (a:=0) zO zO e1 e2 (.ok n (vu L)) hru1
  rw [zLq] at this
  exact this
 have cup:∀ g,CtU prog W 87 [zPp g,.int .i64 (234*yAu n:Nat)] [rdP g hd (vu n).length] (.tuple #[.int .i64 (L:Nat),.nilIface]) [rdP g hd ((vu n).length+(vu L).length)]:=fun g=>by
  have:=yDd (W:=W) (F:=F) (p:=g) (s:=hd) (a:=(vu n).length) (234*yAu n) zO zO zO e1 e2 e3 (.ok L []) hru2
  have u1:yNm (234*yAu n) (.ok L [])=L:=(if_neg zO:(if 234*yAu n<L then 0 else L)=L)
  have u2:yGy (234*yAu n) (.ok L [])=0:=(if_neg zO:(if 234*yAu n<L then 3 else 0)=0)
  have u3:yNn (234*yAu n) (.ok L [])=(vu L).length:=(if_neg zO:(if 234*yAu n<L then 0 else (vu L).length)=(vu L).length)
  rw [u1,u2,u3] at this
  exact this
 have cd:∀ g,CtU prog W 88 [zPp g] [rdP g hd ((vu n).length+(vu L).length)] .nilIface [rdP g hd ((vu n).length+(vu L).length)]:=fun g=>by
  have:=yDc (W:=W) (F:=F) (p:=g) (s:=hd) (a:=(vu n).length+(vu L).length) zO zO e5
  rw [if_neg zO] at this
  exact this
 have cm:=yFv (W:=W)
 have cc:=yCq (W:=W) hE
 have cun:=yCC (W:=W) (yAr F 15)
 have cro:=fun q v=>yCr (W:=W) (s:=s) (d:=d) (q:=q) (n:=n) v none life false zO
 have csz:CtU prog W 25 [zPp d] [DiskP d D] (.int .i64 (n:Nat)) [DiskP d D]:=by
  have:=yBs (W:=W) (p:=d) (D:=D)
  rw [hDn] at this
  exact this
 have car:CtU prog W 90 [zPp d,.int .i64 (yAt n v:Nat),.int .i64 (yAu n:Nat),.int .u64 (v:Nat),.int .i64 (L:Nat)] [DiskP d D] (.tuple #[strV (yAh r),.nilIface]) [DiskP d D]:=by
  have:=yFN (W:=W) (p:=d) (D:=D) hE8 e15 hN zO (yAt n v:Nat) (yAu n:Nat) (v:Nat) (L:Nat)
  rw [g4] at this
  exact this
 have cre:=yFS (W:=W) (F:=F) hE hr zO zO
 have crp:Ct prog W 92 [zPp d,.int .i64 (yAK n:Nat),.int .i64 (yA2 n:Nat),.int .i64 (v:Nat)] [DiskP d D] (fun x:Option Addr × Nat=>.tuple #[.slice x.1 0 x.2,.nilIface]) (fun x=>[DiskP d D,yAP (.slice x.1 0 x.2) 9 1 0 []]):=by
  have h:=yG4 (W:=W) (p:=d) (D:=D) hE8 hN (yAK n:Nat) (yA2 n:Nat) v zO ho ⟨zO,zO,zO,zO,zO,zO,zO⟩
  have g5':=g5 (((yA2 n:Nat):Int).toNat)
  rw [g5'] at h
  exact Ct.rowSl h
 have csi:=fun (q:Nat) (N:List Nd) (a:Option Addr) (b:Int) (hT:TbOk N a r)=>yEd (W:=W) (p:=q) (b:=b) hT zO
 clear g1 g2 g3 g4 g5 hru1 hru2 hG hhd
 have w1:IntKind.u64.wrap ((n:Nat):Int)=((n:Nat):Int):=yAo _ zO
 have w2:IntKind.u64.wrap ((v:Nat):Int)=((v:Nat):Int):=yAo _ zO
 obtain ⟨m,hm⟩:∃ m:Nat,((v:Nat):Int) % 2=(m:Nat):=⟨v % 2,zO⟩
 have hm2:m<2:=zO
 have hx:∀ z,(stC d z n 0 none life false)[0+1+0+((m:Nat):Int).toNat*1]? = some (.int .i64 (yAt n v:Nat)):=fun z=>by
  unfold yAt
  rcases (show m=0∨m=1 by omega) with rfl|rfl
  ·rw [if_pos zO];rfl
  ·rw [if_neg zO];rfl
 have qe:decide (((n:Nat):Int)=((n:Nat):Int))=true:=zY rfl
 have qs:decide (((yAh r).length:Nat)≤((234*yAu n:Nat):Int))=true:=zY zO
 refine Ct.enter func42 rfl ntmps42 zW (fun R=>?_)
 repeat' (first|(refine yAb ?_;first|refine xca crp fun x=>?_;obtain ⟨xa,xc⟩:=x|refine xca cre fun y=>?_;obtain ⟨q',⟨⟨N,a,b⟩,gN,hT⟩⟩:=y;dsimp only at gN hT ⊢|refine xca car fun _=>?_|refine xca cun fun _=>?_|refine xca csz fun _=>?_|refine xca (cd _) fun _=>?_|refine xca (cup _) fun _=>?_|refine xca (cro _ _) fun _=>?_|refine xca cc fun _=>?_|refine xca (cu _) fun _=>?_|refine xca crd fun g=>?_|refine xca cm fun _=>?_|refine xca cr fun _=>?_)|(refine yAj ?_;first|refine yAa (yDm rfl xS (hx _)) ?_|refine yAa (yAn rfl e15) ?_)|refine yAa (yAg rfl w2) ?_|refine yAa (yAg rfl w1) ?_|refine yAa (yAZ rfl rfl zO hm) ?_|refine yAa (yAf rfl rfl qe) ?_|refine xst ?_|refine xsa ?_;intro _|refine xsb ?_ ?_<;>intro _<;>try omega|refine xsc ?_|refine xdr 8 yWD ?_|refine xdr 9 yWE ?_|refine xdr 12 yWF ?_|refine xdr 21 yWG ?_|refine xsd ?_ ?_|exact Rech.nil|fail)
 refine yAz (fun _:Unit=>[(0,zPp s),(3,.int .i64 (v:Nat)),(109,.int .i64 0),(110,.int .i64 0)]) (fun _=>[stP s d q' n 0 none life false,DiskP d D,tbP q' a b,arP N]++R) (fun _=>0) () xB (xN) (fun _=>?_)
 have ql:decide ((0:Int)<0)=false:=rfl
 repeat' (first|(refine yAb ?_;first|refine xca cun fun _=>?_|refine xca (cro _ _) fun _=>?_|refine xca (csi _ _ _ _ hT) fun _=>?_)|refine yAj ?_;refine yAa (yAn rfl e15) ?_|refine yAa (yAc rfl rfl ql) ?_|refine yAa (yAS rfl rfl qs) ?_|refine xst ?_|refine xsa ?_;intro _|refine xsb ?_ ?_<;>intro _<;>try omega|refine xsc ?_|refine xdr 8 yWD ?_|refine xdr 9 yWE ?_|refine xdr 12 yWF ?_|refine xdr 21 yWG ?_|refine xsd ?_ ?_|exact Rech.nil|fail)
 all_goals (exact xdn (q',⟨(N,a,b),gN,hT⟩))
theorem yOp (_hE:ErrsOn L16 W F) (hE8:ErrsOn L8 W F) (hN:NibAt W) (h1:64≤n) (h2:n≤65536) (A:SP) (oa:Option Addr) (oc:Nat) (ops:List BOp) (hL:Lv W opC 3 A oa ops) (ho:ops.length≤100000000) (r:Rows) (hr:yAJ [] ops=r) (hsn:(yAh r).length≤234*yAu n):CtU prog W 12 [zPp d,.slice oa ops.length oc] [A,DiskP d (Dsk.blank n)] .nilIface [A,DiskP d (yDU (Dsk.blank n) n 1 r)]:=by
 have hA:=yA8 h2
 obtain ⟨f1,f2,f3,f4⟩:=yAO h1 0
 have hb:=yHG n zO h2
 obtain ⟨t1,t2,t3⟩:=Holds.told hb (a:=0) (by show 0+2≤n;omega) (Holds.blank n 0 zO)
 obtain ⟨g1,g2,g3,g4,g5,g6,g7,g8⟩:=(Ready.blank h1 h2).fold r h1 h2 zO hsn
 rw [if_pos rfl] at t1
 obtain ⟨ea,hea⟩:=yCW (E:=F) (show (14:Nat)≠0 by omega)
 have cr:CtU prog W 27 [zPp d,.int .i64 0] [DiskP d (Dsk.blank n)] (.tuple #[strV [],.int .i64 0,.iface 281 (.pointer (some ea))]) [DiskP d (Dsk.blank n)]:=by
  have:=yCE (W:=W) (p:=d) (D:=Dsk.blank n) hE8 hN h2 0
  have e0:yA9 (Dsk.blank n) 0=14:=t1
  rw [e0,hea] at this
  have e1:yBt (Dsk.blank n) 0=[]:=by unfold yBt;rw [e0];rfl
  have e2:yBC (Dsk.blank n) 0=0:=by unfold yBC;rw [e0];rfl
  rw [e1,e2] at this
  exact this
 have csz:CtU prog W 25 [zPp d] [DiskP d (Dsk.blank n)] (.int .i64 (n:Nat)) [DiskP d (Dsk.blank n)]:=yBs (W:=W) (p:=d) (D:=Dsk.blank n)
 have cof:CtU prog W 26 [zPp d] [DiskP d (Dsk.blank n)] (.bool false) [DiskP d (Dsk.blank n)]:=yD5 (W:=W) (p:=d) (D:=Dsk.blank n)
 have cov:=yFw (W:=W) (d:=d) (D:=Dsk.blank n) h1 h2 rfl
 have cap:=fun q=>yCY (W:=W) (N:=[]) (ta:=none) (r:=[]) (p:=q) (tb:=0) (TbOk.nil []) A oa oc ops hL (by simp;omega)
 rw [hr] at cap
 have csi:=fun (q:Nat) (N:List Nd) (a:Option Addr) (b:Int) (hT:TbOk N a r)=>yEd (W:=W) (N:=N) (p:=q) (b:=b) hT zO
 have cro:=fun s q=>yCr (W:=W) (s:=s) (d:=d) (q:=q) (n:=n) 0 none (Dsk.blank n).life false h2
 have cfo:=fun (s q:Nat) (N:List Nd) (a:Option Addr) (b:Int) (hT:TbOk N a r)=>yHd (W:=W) (s:=s) (d:=d) (q:=q) (b:=b) (D:=Dsk.blank n) hE8 hN h1 h2 0 zO none (Dsk.blank n).life false hT rfl hsn (by show ([]:List (Nat × List UInt8)).length+65536<1073741823;simp) g1 g6 g7 g2 g8 g3.nn
 obtain ⟨D0,hD0⟩:∃ D0,D0=Dsk.blank n:=⟨_,rfl⟩
 obtain ⟨D2,hD2⟩:∃ D2,D2=yDU (Dsk.blank n) n 1 r:=⟨_,rfl⟩
 have q1:decide ((n:Int)<64)=false:=zZ zO
 have q2:decide (((234*yAu n:Nat):Int)<((yAh r).length:Nat))=false:=zZ zO
 rw [← hD2] at cfo ⊢
 simp only [← hD0] at cr csz cof cov cro cfo ⊢
 clear hD0 hD2 g1 g2 g3 g4 g5 g6 g7 g8 t1 t2 t3 hb
 refine Ct.enter func12 rfl ntmps12 zW (fun R=>?_)
 refine KJ.arNil ?_
 repeat' (first|(refine yAb ?_;first|refine xca (cfo _ _ _ _ _ hT) fun g=>?_|refine xca (cro _ _) fun _=>?_|refine xca (csi _ _ _ _ hT) fun _=>?_|refine xca (cap _) fun x=>?_;obtain ⟨⟨N,a,b⟩,gN,hT⟩:=x;dsimp only at gN hT ⊢|refine xca cov fun x=>?_;obtain ⟨s,q⟩:=x|refine xca cr fun _=>?_|refine xca cof fun _=>?_|refine xca csz fun _=>?_)|refine yAa (yAc rfl rfl q1) ?_|refine yAa (yAe rfl rfl q2) ?_|refine xst ?_|refine xsa ?_;intro _|refine xsb ?_ ?_<;>intro _<;>try omega|refine xsc ?_|exact xdn ()|fail)
theorem yTb (hE:ErrsOn L16 W F) (hE8:ErrsOn L8 W F) (hN:NibAt W) (h1:64≤n) (h2:n≤65536) (hr:RisR r) (hsn:(yAh r).length≤234*yAu n) (v:Nat) (hv:1≤v∧v+1≤1099511627776) (hG:Good n r v D) :
 Ct prog W 18 [zPp d] [DiskP d D] (fun x:Nat × (Nat × TbQ [] r) × Nat=>.tuple #[.pointer (some ⟨x.1,0,none⟩),.nilIface])
  (fun x=>[stP x.1 d x.2.1.1 n ((v+1:Nat):Int) (some ⟨x.2.2,0,none⟩) D.life false,DiskP d (yDU D n (v+1) r),tbP x.2.1.1 x.2.1.2.1.2.1 x.2.1.2.1.2.2,arP x.2.1.2.1.1,yWz x.2.2 d n (v+1) (yDU D n (v+1) r).life]):=by
 have hA:=yA8 (n:=n) zO
 obtain ⟨f1,f2,f3,f4⟩:=yAO h1 0
 have hn:=hG.nn
 have ho:=hG.rest.calm.1
 have hu:=hG.rest.und
 obtain ⟨g1,g2,g3,g4,g5,g6,g7,g8⟩:=hG.ready.fold r h1 zO hv.2 hsn
 have csz:CtU prog W 25 [zPp d] [DiskP d D] (.int .i64 (n:Nat)) [DiskP d D]:=by
  have:=yBs (W:=W) (p:=d) (D:=D)
  rw [hn] at this
  exact this
 have cof:CtU prog W 26 [zPp d] [DiskP d D] (.bool false) [DiskP d D]:=by
  have:=yD5 (W:=W) (p:=d) (D:=D)
  rw [ho] at this
  exact this
 have cov:=yFw (W:=W) (d:=d) (D:=D) h1 zO hn
 have clo:=fun s q=>yTa (W:=W) (s:=s) (d:=d) (q:=q) (D:=D) hE hE8 hN h1 h2 hr hsn v ⟨hv.1,zO⟩ D.life hG
 have cfo:=fun (s q:Nat) (N:List Nd) (a:Option Addr) (b:Int) (hT:TbOk N a r)=>yHd (W:=W) (s:=s) (d:=d) (q:=q) (b:=b) (D:=D) hE8 hN h1 zO v hv.2 none D.life false hT hn hsn (by rw [hu];simp) g1 g6 g7 g2 g8 g3.nn
 obtain ⟨D2,hD2⟩:∃ D2,D2=yDU D n (v+1) r:=⟨_,rfl⟩
 simp only [← hD2] at cfo ⊢
 have q1:decide ((n:Int)<64)=false:=zZ zO
 clear hD2 g1 g2 g3 g4 g5 g6 g7 g8 hG
 refine Ct.enter func18 rfl ntmps18 zW (fun R=>?_)
 refine KJ.lift0 ?_
 repeat' (first|refine KJ.liftDeferF rfl (Evs.cons (v:=(zPp _)) rfl Evs.nil) ?_|refine KJ.liftDeferV rfl rfl xE ?_|refine KJ.liftStp (by constructor) ?_|refine KJ.liftCondT rfl ?_|refine KJ.liftCondF rfl ?_|refine KJ.liftOper ?_|(refine yAs ?_;first|refine yAq (d:=3) rfl (fun ge=>?_)|refine yAq (d:=2) rfl (fun gs=>?_))|(refine yAb ?_;first|refine xca (cfo _ _ _ _ _ hT) fun gj=>?_|refine xca (clo _ _) fun y=>?_;obtain ⟨q',⟨⟨N,a,b⟩,gN,hT⟩⟩:=y;dsimp only at gN hT ⊢|refine xca cov fun x=>?_;obtain ⟨s,q⟩:=x|refine xca cof fun _=>?_|refine xca csz fun _=>?_)|refine yCQ ?_;refine yAa (yCN rfl rfl) ?_|refine yAa (yAc rfl rfl q1) ?_|refine xst ?_|refine xsa ?_;intro _|refine xsb ?_ ?_<;>intro _<;>try omega|refine xsc ?_|refine xdr 2 yPt ?_|refine KJ.liftDraws (id:=2) yPt zK zK ?_|refine xdr 4 yPt ?_|refine KJ.liftDraws (id:=4) yPt zK zK ?_|refine xdr 9 yWH ?_|refine KJ.liftDraws (id:=9) yWH zK zK ?_|refine xsd ?_ ?_|exact Rech.nil|fail)
 all_goals exact KJ.liftDone2 (v1:=[zPp ge,zPp gs]) (v2:=[zPp ge]) rfl rfl (yPs ge gs) (yJw ge) xP xP (.inl rfl) rfl (Rvs.cell rfl inferInstance xS rfl (Rvs.cell rfl inferInstance xS rfl Rvs.nil)) (s,(q',⟨(N,a,b),gN,hT⟩),gj) (by rfl) (xN)
end
end Go.Proofs.YtlnbkbfblhofbaaGreatDoor
