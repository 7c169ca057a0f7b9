/-
  StP, StW1.
-/
import Derived.Test.YtlnbkbfblhofbaaGreatDoorVCF
import Derived.Test.YtlnbkbfblhofbaaGreatDoorVDU
set_option maxHeartbeats 64000000
namespace Go.Proofs.YtlnbkbfblhofbaaGreatDoor
open Go Go.RowKit
open Go.Proofs.Tryz
abbrev yWy:Pl:=(.op 0 (.op 1 (.op 2 (.op 4 (.op 5 (.op 7 (.op 8 (.op 11 (.op 12 (.ef 3 [12,11,8,7,5,4,0] (.op 6 (.ef 9 [6,12,11,5,4,0] (.op 10 (.op 13 (.op 14 (.ef 15 [] .nil))))))))))))))))
abbrev yZn:Pl:=(.op 0 (.op 1 (.op 2 (.op 3 (.op 4 (.op 5 (.op 6 (.op 7 (.op 8 (.op 9 (.op 10 (.op 11 (.op 12 (.op 13 (.op 14 (.ef 15 [] .nil))))))))))))))))
abbrev yS6:Pl:=(.op 0 (.op 1 (.ef 2 [0] (.op 3 (.ef 4 [] .nil)))))
def rowB (p:List UInt8 × List UInt8):List UInt8:=tx p.1++tx p.2
def yAh (r:Rows):List UInt8:=vu r.length++r.flatMap rowB
def yBd (n len:Nat):List UInt8:=vu n++vu len
theorem yB3 (n len:Nat):(yBd n len).length≤20:=by
 unfold yBd vu
 rw [zLa]
 have h1:=yO0 10 n
 have h2:=yO0 10 len
 omega
def yAu (n:Nat):Nat:=(n-2) / 3
def yAt (n v:Nat):Nat:=if v % 2=0 then 2 else 2+yAu n
def yAK (n:Nat):Nat:=2+2*yAu n
def yA2 (n:Nat):Nat:=n-2-2*yAu n
theorem yAO {n:Nat} (h:64≤n) (v:Nat):2≤yAt n v∧yAt n v+yAu n≤yAK n∧yAK n+yA2 n=n∧20≤yAu n:=by
 unfold yAt yAK yA2 yAu
 split <;> omega
theorem yEU (D:Dsk) (i:Int) (s:List UInt8):(D.writeD i s).life=D.life:=by
 unfold Dsk.writeD Dsk.gone
 repeat' split
 all_goals rfl
theorem yEV (D:Dsk):D.flushD.life=D.life:=by
 unfold Dsk.flushD Dsk.gone
 repeat' split
 all_goals rfl
theorem yS7 (at_ stamp:Int):∀ (f:Nat) (D:Dsk) (i:Int) (v:List UInt8),(yC0 at_ stamp f D i v).2.life=D.life:=by
 intro f
 induction f with
 |zero=>intro D i v;unfold yC0;exact yEV D
 |succ f ih=>
  intro D i v
  unfold yC0
  repeat' split
  ·exact yEV D
  ·exact yEU _ _ _
  ·rw [ih];exact yEU _ _ _
theorem yHb {D:Dsk} (hr:Rest D) (a n s:Nat) (v:List UInt8) (ha:a+n≤D.n) (hs:1≤s) (hv:v.length≤234*n) (hn:n≤65536) :
 (yA7 D a n s v).1=0∧Rest (yA7 D a n s v).2∧(yA7 D a n s v).2.n=D.n∧(yA7 D a n s v).2.life=D.life∧
 (∀ k,234*k<v.length→(yA7 D a n s v).2.sec (a+k)=yAx s ((v.drop (234*k)).take 234))∧∀ j,j<D.n→(j<a∨a+n≤j)→(yA7 D a n s v).2.sec j=D.sec j:=by
 have hm:D.mayB a n=true:=by unfold Dsk.mayB;exact zY zO
 have hns:yGx v.length≤n:=by unfold yGx;omega
 have hroom:yCb n=234*n:=by unfold yCb;omega
 have e1:yA7 D a n s v=yC0 (a:Int) (s:Int) v.length D ((0:Nat):Int) v:=by
  unfold yA7
  rw [if_neg (by rw [hm];simp),if_neg zO,if_neg zO,if_neg (by rw [hr.calm.1];simp)]
  rfl
 have hlife:=yS7 (a:Int) (s:Int) v.length D ((0:Nat):Int) v
 obtain ⟨w1,w2,w3,w4⟩:=ySF s a v.length D 0 v hr.calm.1 hr.ok zO zO
 rw [← e1] at w1 w2 w3 w4 hlife
 clear e1
 obtain ⟨r,hr2⟩:∃ r,r=yA7 D a n s v:=⟨_,rfl⟩
 rw [← hr2] at w1 w2 w3 w4 hlife ⊢
 clear hr2
 obtain ⟨w0,wa⟩:=w4 hr.calm.2
 rcases w1 with ⟨_,w5,w6,w7⟩|⟨w5,_⟩
 rotate_left
 ·rw [w0] at w5;cases w5
 rw [hr.und,List.nil_append,zLz] at w7
 have hlen:=hr.ok.len
 have hin:∀ x ∈ pcs (s:Int) v.length a v,a≤x.1∧x.1<a+yGx v.length∧x.2.length=256:=fun x hx=>ySD _ _ _ _ x hx
 refine ⟨w0,⟨⟨w5,wa⟩,w6,w3⟩,w2,hlife,fun k hk=>?_,fun j hj hja=>?_⟩
 ·obtain ⟨d,a1,a2,a3⟩:=yPa (s:Int) D.n (fun _=>256) (fun _=>Nat.le_refl _) v.length a (pcs (s:Int) v.length a v).length 0 v D.img hlen zO k hk
  rw [a3 (fun _=>rfl) zO (Nat.le_refl _),zLi (Nat.le_refl _),yMI _ (fun _=>rfl) _ _ (fun x hx=>(hin x hx).2.2),← w7,yJa _ _ (yAV _ _ (by rw [zLg];omega)) (yBq _ _ _ (by unfold yGx at hns;omega))] at a2
  exact a2
 ·unfold Dsk.sec
  rw [w7]
  exact yC8 D.n j _ _ hlen fun x hx=>by obtain ⟨a1,a2,a3⟩:=hin x hx;exact ⟨zO,zO,zO⟩
theorem yJ2 {D:Dsk} (hr:Rest D) (a n s:Nat) (v:List UInt8) (ha:a+n≤D.n) (hs:1≤s) (hv:v.length≤234*n) (hn:n≤65536) (hk:∀ k,234*k<v.length→D.sec (a+k)=yAx s ((v.drop (234*k)).take 234)) :
 yBH D a n s v.length=(v,0):=by
 have hm:D.mayB a n=true:=by unfold Dsk.mayB;exact zY zO
 have hroom:yCb n=234*n:=by unfold yCb;omega
 have hns:yGx v.length≤n:=by unfold yGx;omega
 have hA:yBH D a n s v.length=yLs D a s v.length (yGx v.length) 0 []:=by
  unfold yBH
  rw [if_neg (by rw [hm];simp),if_neg zO,if_neg zO,if_neg zO,if_neg (by rw [hr.calm.1];simp)]
  have:(yBR v.length).toNat=yGx v.length:=by unfold yBR yGx;split <;> omega
  rw [this]
 rw [hA]
 exact yXA hr.calm.1 hr.und a s zO (yGx v.length) 0 v [] v.length rfl zO (fun _=>by omega) hk
theorem yJo (D:Dsk) (a v:Int) (s:List UInt8):(yA6 D a v s).life=D.life:=by
 unfold yA6 yCV
 repeat' split
 all_goals first|rfl|(rw [yEV,yEU])|(rw [yEU])
structure Good (n:Nat) (r:Rows) (v:Nat) (D:Dsk):Prop where
 rest:Rest D
 nn:D.n=n
 slot:Holds D 0 v (yBd n (yAh r).length)
 area:∀ k,234*k<(yAh r).length→D.sec (yAt n v+k)=yAx v (((yAh r).drop (234*k)).take 234)
 log:∀ j,j<yA2 n→yCt ((D.sec (yAK n+j)).drop 248) 8<(yAW v j:Nat)
def yCl (D:Dsk) (n v:Nat) (r:Rows):Dsk:=(yA7 D (yAt n v) (yAu n) v (yAh r)).2
def yDU (D:Dsk) (n v:Nat) (r:Rows):Dsk:=yA6 (yCl D n v r) 0 v (yBd n (yAh r).length)
structure Ready (n v:Nat) (D:Dsk):Prop where
 rest:Rest D
 nn:D.n=n
 slot:∃ l,Holds D 0 v l
 log:∀ j,j<yA2 n→yCt ((D.sec (yAK n+j)).drop 248) 8<(yAW v j:Nat)
theorem Good.ready {n v:Nat} {r:Rows} {D:Dsk} (h:Good n r v D):Ready n v D:=⟨h.rest,h.nn,⟨_,h.slot⟩,h.log⟩
theorem Ready.blank {n:Nat} (h1:64≤n) (h2:n≤65536):Ready n 0 (Dsk.blank n):=by
 refine ⟨yHG n zO h2,rfl,⟨[],Holds.blank n 0 zO⟩,fun j hj=>?_⟩
 have hf:=yAO h1 0
 rw [yG1 n _ zO,yVf]
 unfold yAW
 omega
theorem Ready.fold {n v:Nat} {D:Dsk} (h:Ready n v D) (r:Rows) (h1:64≤n) (h2:n≤65536) (hv:v+1≤1099511627776) (hr:(yAh r).length≤234*yAu n) :
 (yA7 D (yAt n (v+1)) (yAu n) ((v+1:Nat):Int) (yAh r)).1=0∧yBu (yCl D n (v+1) r) 0 ((v+1:Nat):Int) (yBd n (yAh r).length)=0∧Good n r (v+1) (yDU D n (v+1) r)∧(yDU D n (v+1) r).life=D.life∧(yCl D n (v+1) r).off=false∧(yCl D n (v+1) r).und=[]∧(yCl D n (v+1) r).n=n∧(yDU D n (v+1) r).off=false:=by
 obtain ⟨f1,f2,f3,f4⟩:=yAO h1 (v+1)
 obtain ⟨l,hl⟩:=h.slot
 have hn:=h.nn
 obtain ⟨a1,a2,a3,a4,a5,a6⟩:=yHb h.rest (yAt n (v+1)) (yAu n) (v+1) (yAh r) zO zO hr (by unfold yAu;omega)
 have hA:(yA7 D (yAt n (v+1)) (yAu n) ((v+1:Nat):Int) (yAh r)).2=yCl D n (v+1) r:=rfl
 rw [hA] at a2 a3 a4 a5 a6
 have hl2:Holds (yCl D n (v+1) r) 0 v l:=hl.keep fun k hk=>by
  refine a6 _ zO (.inl zO)
 have hh:=yB3 n (yAh r).length
 obtain ⟨b1,b2,b3,b4,b5⟩:=yEs a2 0 (v+1) (yBd n (yAh r).length) zO zO hv zO
 have hS:=Holds.next a2 zO hl2 hv (show (yBd n (yAh r).length).length≤234 by omega)
 refine ⟨a1,b1,⟨b2,b3.trans (a3.trans hn),hS,fun k hk=>?_,fun j hj=>?_⟩,(yJo _ _ _ _).trans a4,a2.calm.1,a2.und,a3.trans hn,b2.calm.1⟩
 ·have:=a5 k hk
  rw [← this]
  exact b5 _ zO zO
 ·have h3:(yDU D n (v+1) r).sec (yAK n+j)=D.sec (yAK n+j):=(b5 _ zO zO).trans (a6 _ zO (.inr zO))
  rw [h3]
  have h4:=h.log j hj
  have h5:yAW v j<yAW (v+1) j:=by unfold yAW;omega
  first|exact Nat.lt_trans h4 h5|exact Int.lt_trans h4 zO
theorem Good.read {n v:Nat} {r:Rows} {D:Dsk} (h:Good n r v D) (h1:64≤n) (h2:n≤65536) (hv:1≤v∧v≤1099511627776) (hr:(yAh r).length≤234*yAu n) :
 yA9 D 0=0∧yBC D 0=v∧yBt D 0=yBd n (yAh r).length∧yBH D (yAt n v) (yAu n) v (yAh r).length=(yAh r,0):=by
 obtain ⟨f1,f2,f3,f4⟩:=yAO h1 v
 have hn:=h.nn
 have ht:=Holds.told h.rest (a:=0) zO h.slot
 have hv0:¬ v=0:=zO
 rw [if_neg hv0,if_neg hv0] at ht
 exact ⟨ht.1,ht.2.1,ht.2.2,yJ2 h.rest _ _ _ _ zO hv.1 hr (by unfold yAu;omega) h.area⟩
theorem xAw (x:Nat):ShrF .i64 (x:Int) 7 ((x / 128:Nat):Int):=by
 refine ⟨zO,?_⟩
 show (x:Int).fdiv 128=_
 rw [Int.fdiv_eq_ediv_of_nonneg _ zO]
 omega
def yCw (r:Rows) (i:Nat):List UInt8:=vu r.length++(r.take i).flatMap rowB
theorem yJp (r:Rows):yCw r 0=vu r.length:=by simp [yCw]
theorem yKt (r:Rows):yCw r r.length=yAh r:=by unfold yCw yAh;rw [List.take_length]
theorem yGq {r:Rows} {i:Nat} {p:List UInt8 × List UInt8} (h:r[i]? = some p):yCw r (i+1)=yCw r i++rowB p:=by
 unfold yCw
 rw [List.take_add_one,h,zLd]
 simp
theorem yKu {r:Rows} {i:Nat} {p:List UInt8 × List UInt8} (h:r[i]? = some p):(yCw r i).length+(rowB p).length≤(yAh r).length:=by
 have e:yAh r=yCw r (i+1)++(r.drop (i+1)).flatMap rowB:=by
  unfold yAh yCw
  rw [zLd,← List.flatMap_append,zLu]
 rw [e,yGq h]
 simp
theorem yLF (p:List UInt8 × List UInt8):(rowB p).length=(vu p.1.length).length+p.1.length+((vu p.2.length).length+p.2.length):=by
 unfold rowB tx
 simp only [zLa]
section
variable {W:World} {N:List Nd} {a:Option Addr} {r:Rows} {p:Nat} {b:Int}
instance yZo:FnIs prog 64:=⟨zK⟩
theorem yJq (x:Nat) (hx:x<9223372036854775808):CtU prog W 64 [.int .i64 (x:Nat)] [] (.int .i64 ((vu x).length:Nat)) []:=by
 have hv:=yBO x
 refine Ct.enter func64 rfl ntmps64 zW (fun R=>?_)
 repeat' (first|refine xst ?_|refine xsa ?_;intro _|refine xsb ?_ ?_<;>intro _<;>try omega|refine xsc ?_|fail)
 refine yAz (fun i:{i:List UInt8 × Nat × Nat//VuI [] x i}=>[(0,.int .i64 (i.1.2.1:Nat)),(3,.int .i64 (i.1.1.length+1:Nat))])
  (fun _=>[]++R) (fun i=>i.1.2.2) ⟨([],x,9),VuI.start [] zO⟩ xB (xN) (fun ⟨(l',y,f),hi⟩=>?_)
 dsimp only
 have hlen:=hi.len
 dsimp only at hlen
 rw [List.length_nil] at hlen
 by_cases hlt:y<128
 ·have ql:decide ((128:Int)≤(y:Nat))=false:=zZ zO
  have e1:=congrArg List.length (hi.last hlt)
  rw [zLa,zLa,List.length_nil,zLj,List.length_nil] at e1
  have e2:(vu x).length=l'.length+1:=zO
  rw [e2]
  repeat' (first|refine yAa (yAm rfl rfl ql) ?_|refine xst ?_|refine xsa ?_;intro _|refine xsb ?_ ?_<;>intro _<;>try omega|refine xsc ?_|exact xdn ()|fail)
 ·have ql:decide ((128:Int)≤(y:Nat))=true:=zY zO
  obtain ⟨f',rfl,hn⟩:=hi.next hlt
  have e3:(l'++[UInt8.ofNat (y % 128+128)]).length+1=l'.length+1+1:=zW
  repeat' (first|refine yAa (yAd (r:=((l'.length+1+1:Nat):Int)) rfl rfl zO zO) ?_|refine yJ8 ?_;refine yAa (yPg rfl rfl (xAw y)) ?_|refine yAa (yAm rfl rfl ql) ?_|refine xst ?_|refine xsa ?_;intro _|refine xsb ?_ ?_<;>intro _<;>try omega|refine xsc ?_|fail)
  all_goals
   refine yAp ⟨(l'++[UInt8.ofNat (y % 128+128)],y / 128,f'),hn⟩ (by show f'<f'+1;omega) ?_ (xN)
   dsimp only
   rw [e3]
   exact xB
theorem yMS (r:Rows):2*r.length+1≤(yAh r).length:=by
 have h1:∀ l:Rows,2*l.length≤(l.flatMap rowB).length:=fun l=>by
  induction l with
  |nil=>simp
  |cons p l ih=>
   have h2:=yLF p
   have h3:=yB9 p.1.length
   have h4:=yB9 p.2.length
   rw [zLr,zLa,zLj]
   omega
 have h5:=yB9 r.length
 have:=h1 r
 unfold yAh
 rw [zLa]
 omega
theorem yEd (hT:TbOk N a r) (hl:(yAh r).length≤4611686018427387904) :
 CtU prog W 30 [zPp p] [tbP p a b,arP N] (.int .i64 ((yAh r).length:Nat)) [tbP p a b,arP N]:=by
 have cl:=yOk (W:=W) (p:=p) (b:=b) hT
 have cf:=yLE (W:=W) (p:=p) (a:=a) (b:=b) []
 have hrl:=yMS r
 have cv0:CtU prog W 64 [.int .i64 (r.length:Nat)] [] (.int .i64 ((yCw r 0).length:Nat)) []:=by
  rw [yJp]
  exact yJq (W:=W) r.length zO
 obtain ⟨t,h1,h2,ht,h4⟩:=hT
 have hL:r=t.frm []:=by rw [yJm,ht]
 refine Ct.enter func30 rfl ntmps30 zW (fun R=>?_)
 repeat' (first|refine yAs ?_;refine yAq rfl (fun g3=>?_)|(refine yAb ?_;first|refine xca cv0 fun _=>?_|refine xca cf fun z=>?_;obtain ⟨gr,gl⟩:=z|refine xca cl fun _=>?_)|refine xst ?_|refine xsa ?_;intro _|refine xsb ?_ ?_<;>intro _<;>try omega|refine xsc ?_|refine xdr 5 yWy ?_|refine xsd ?_ ?_|exact Rech.nil|fail)
 refine yFu (gr:=gr) (gl:=gl) (L:=r) rfl rfl h1 hL rfl zX (fun i=>yAi g3 [.int .i64 ((yCw r i).length:Nat)] 3) (fun i=>yJT False) .ret xP (fun l i s hs R'=>?_) ?_ (fun i hi=>?_)
 ·have hlen:=yKu hs
  have hrw:=yLF s
  dsimp only [Env.ofPs]
  have cvk:=yJq (W:=W) s.1.length zO
  have cvv:=yJq (W:=W) s.2.length zO
  have e:((yCw r i).length:Int)+(((vu s.1.length).length:Int)+(s.1.length:Int)+((vu s.2.length).length:Int)+(s.2.length:Int))=((yCw r (i+1)).length:Nat):=by
   rw [yGq hs,zLa,hrw]
   omega
  repeat' (first|refine yLB ?_;refine yLC xS ?_|refine yBP ?_;(refine yA5 (X:=Unit) xE cvk xP rfl ?_)|refine yBP ?_;(refine yA5 (X:=Unit) xE cvv xP rfl ?_)|refine xst ?_|refine xsa ?_;intro _|refine xsb ?_ ?_<;>intro _<;>try omega|refine xsc ?_|refine xdr 5 yZn ?_|refine xsd ?_ ?_|exact Rech.nil|fail)
  all_goals
   rw [e]
   exact yHP xS (xN)
 ·rw [yKt]
  repeat' (first|refine xst ?_|refine xsa ?_;intro _|refine xsb ?_ ?_<;>intro _<;>try omega|refine xsc ?_|refine xdr 5 yWy ?_|refine xsd ?_ ?_|exact Rech.nil|exact xdn ()|fail)
 ·exact yHQ xS
theorem yGr (hT:TbOk N a r) (hl:(yAh r).length+10≤140737488355328) :
 CtU prog W 66 [zPp p] [tbP p a b,arP N] (strV (yAh r)) [tbP p a b,arP N]:=by
 have cl:=yOk (W:=W) (p:=p) (b:=b) hT
 have cf:=yLE (W:=W) (p:=p) (a:=a) (b:=b) []
 have cn:=yJe (W:=W)
 have hrl:=yMS r
 have e1:IntKind.u64.wrap ((r.length:Nat):Int)=((r.length:Nat):Int):=yAo _ zO
 have cu:∀ g,CtU prog W 68 [zPp g,.int .u64 (r.length:Nat)] [WrP g []] (.tuple #[]) [WrP g (yCw r 0)]:=fun g=>by
  have:=yDx (W:=W) (p:=g) (l:=[]) r.length zO zW
  rw [List.nil_append,← yJp r] at this
  exact this
 have co:∀ g,CtU prog W 71 [zPp g] [WrP g (yAh r)] (strV (yAh r)) [WrP g (yAh r)]:=fun g=>yJh (W:=W) zO
 obtain ⟨t,h1,h2,ht,h4⟩:=hT
 have hL:r=t.frm []:=by rw [yJm,ht]
 refine Ct.enter func66 rfl ntmps66 zW (fun R=>?_)
 repeat' (first|refine yAs ?_;refine yAq rfl (fun g3=>?_)|(refine yAb ?_;first|refine xca (cu _) fun _=>?_|refine xca cn fun pw=>?_|refine xca cf fun z=>?_;obtain ⟨gr,gl⟩:=z|refine xca cl fun _=>?_)|refine yAa (yAg rfl e1) ?_|refine xst ?_|refine xsa ?_;intro _|refine xsb ?_ ?_<;>intro _<;>try omega|refine xsc ?_|refine xdr 2 yS6 ?_|refine xsd ?_ ?_|exact Rech.nil|fail)
 all_goals
  refine KJ.allShut (L:=[yAi g3 [zPp pw] 121,WrP pw (yCw r 0)]) 78 xP ?_
  refine yFu (gr:=gr) (gl:=gl) (L:=r) rfl rfl h1 hL rfl zX (fun i=>yWw 78 [yAi g3 [zPp pw] 121,WrP pw (yCw r i)]) (fun i=>yJT False) .ret xP (fun l i s hs R'=>?_) ?_ (fun i hi=>?_)
  ·have hlen:=yKu hs
   have hrw:=yLF s
   have hv1:=yB9 s.1.length
   have hv2:=yB9 s.2.length
   dsimp only [Env.ofPs]
   refine KJ.allOpen xS ?_
   have ck:=yG6 (W:=W) (p:=pw) (l:=yCw r i) s.1 zO
   have cv:CtU prog W 97 [zPp pw,strV s.2] [WrP pw (yCw r i++tx s.1)] (.tuple #[]) [WrP pw (yCw r (i+1))]:=by
    have:=yG6 (W:=W) (p:=pw) (l:=yCw r i++tx s.1) s.2 (by rw [zLa];unfold tx;rw [zLa];omega)
    rw [zLd,show tx s.1++tx s.2=rowB s from rfl,← yGq hs] at this
    exact this
   repeat' (first|refine yLB ?_;refine yLC xS ?_|(refine yAb ?_;first|refine xca cv fun _=>?_|refine xca ck fun _=>?_)|refine xst ?_|refine xsa ?_;intro _|refine xsb ?_ ?_<;>intro _<;>try omega|refine xsc ?_|refine xdr 2 yS6 ?_|refine xsd ?_ ?_|exact Rech.nil|fail)
   refine KJ.allShut (L:=[yAi g3 [zPp pw] 121,WrP pw (yCw r (i+1))]) 78 xP ?_
   exact yHP xS (xN)
  ·refine KJ.allOpen xS ?_
   rw [yKt]
   repeat' (first|refine yAb ?_;refine xca (co _) fun _=>?_|refine xst ?_|refine xsa ?_;intro _|refine xsb ?_ ?_<;>intro _<;>try omega|refine xsc ?_|refine xdr 2 yS6 ?_|refine xsd ?_ ?_|exact Rech.nil|exact xdn ()|fail)
  ·exact yHQ xS
end
end Go.Proofs.YtlnbkbfblhofbaaGreatDoor
