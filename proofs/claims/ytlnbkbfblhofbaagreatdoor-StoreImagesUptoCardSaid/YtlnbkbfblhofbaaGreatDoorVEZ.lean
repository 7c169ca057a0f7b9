/-
  StP2, StP3, StW2, StW3, StW4, JLe4, StW5, StW6, TxW1, TxW3, StP4, StP5.
-/
import Derived.Test.YtlnbkbfblhofbaaGreatDoorVDQ
set_option maxHeartbeats 64000000
namespace Go.Proofs.YtlnbkbfblhofbaaGreatDoor
open Go Go.RowKit
open Go.Proofs.Tryz
abbrev yZp:Pl:=(.op 0 (.op 1 (.op 2 (.op 3 (.op 4 (.op 5 (.op 6 (.op 7 (.op 8 (.ef 9 [4,3,2,1,0] (.op 10 (.op 11 .nil))))))))))))
abbrev yZq:Pl:=(.op 0 (.op 1 (.op 2 (.op 3 (.op 4 (.op 5 (.op 6 (.op 7 (.op 8 (.op 9 (.op 10 (.op 11 (.op 12 (.op 13 (.op 14 (.op 15 (.op 16 (.op 17 (.op 18 (.op 19 (.ef 20 [] (.op 21 (.op 22 (.op 23 (.op 24 (.op 25 (.op 26 (.op 27 (.op 28 (.ef 29 [27,26,25,24,23] (.ef 30 [] (.op 31 (.op 32 .nil)))))))))))))))))))))))))))))))))
abbrev yZr:Pl:=(.op 0 (.op 1 (.op 2 (.op 3 (.op 4 (.op 5 (.op 6 (.op 7 (.op 8 (.op 9 (.op 10 (.op 11 (.op 12 (.op 13 (.op 14 (.ef 15 [] (.op 16 (.op 17 (.op 18 (.op 19 (.op 20 .nil)))))))))))))))))))))
abbrev yZs:Pl:=(.op 0 (.op 1 (.op 2 (.ef 3 [] .nil))))
theorem yOm (l:List BOp):(yA1 l).length≤l.length:=by
 induction l with
 |nil=>exact Nat.le_refl _
 |cons o r ih=>
  unfold yA1
  split
  ·rw [zLj];omega
  ·rw [yLb]
   have:=yO3 (f:=BOp.key) (yA1 r) o.nrm.key
   simp only [zLa,zLg,zLf,zLj,List.length_nil]
   omega
theorem yPn (at_ ver used:Nat):∀ (ps:List (List UInt8)) (i:Nat) (D:Dsk),yJS D→
 yJS (yEi at_ ver used ps i D).2:=by
 intro ps
 induction ps with
 |nil=>intro i D h;exact h
 |cons q ps ih=>
  intro i D h
  have hc:=(yEP h ((at_:Int)+(used:Nat)+(i:Nat)) (yAx (yAW ver (used+i):Nat) q)).1
  unfold yEi
  split
  ·exact hc
  ·exact ih _ _ hc
theorem yOn {D:Dsk} (hr:Rest D) {at_ v used:Nat} {ps:List (List UInt8)} (hp:∀ p ∈ ps,p.length≤234) (hf:at_+used+ps.length≤D.n) :
 (yEi at_ v used ps 0 D).1=true∧(yEi at_ v used ps 0 D).2.off=false∧(yEi at_ v used ps 0 D).2.life=D.life∧(yEi at_ v used ps 0 D).2.und.length=ps.length∧(yEi at_ v used ps 0 D).2.n=D.n∧(yEi at_ v used ps 0 D).2.flushE=0∧
 Rest (yEi at_ v used ps 0 D).2.flushD∧(yEi at_ v used ps 0 D).2.flushD.n=D.n∧(yEi at_ v used ps 0 D).2.flushD.life=D.life∧
 ∀ j,j<D.n→(j<at_+used∨at_+used+ps.length≤j)→(yEi at_ v used ps 0 D).2.flushD.sec j=D.sec j:=by
 obtain ⟨w1,w2,w3,w4,w5⟩:=yXC at_ v used ps 0 D hr.calm.1 hr.ok hp zO
 have hc:=yPn at_ v used ps 0 D hr.calm
 obtain ⟨A,hA⟩:∃ A,A=yEi at_ v used ps 0 D:=⟨_,rfl⟩
 rw [← hA] at w1 w2 w3 w4 w5 hc ⊢
 clear hA
 rcases w1 with ⟨a1,a2,a3⟩|⟨_,a2,_⟩
 rotate_left
 ·rw [hc.1] at a2;cases a2
 rw [hr.und,List.nil_append,zLz] at a3
 obtain ⟨f1,f2,f3,f4,f5⟩:=yI7 hc
 refine ⟨a1,a2,w5,by rw [a3,yQw],w3,f3,⟨f1,f4,Dsk.flushD_ok w4⟩,by rw [f2,w3],by rw [yEV,w5],fun j hj hjo=>?_⟩
 unfold Dsk.sec
 rw [f5,a3,w2]
 exact yC8 D.n j _ _ hr.ok.len fun x hx=>by
  obtain ⟨b1,b2,b3⟩:=yZi at_ v ps used hp x hx
  exact ⟨zO,zO,zO⟩
def yGs (r:Rows) (i:Nat):Nat:=(vu r.length).length+((r.take i).flatMap rowB).length
theorem yMT (r:Rows):yGs r 0=(vu r.length).length:=rfl
theorem yLG (r:Rows):yGs r r.length=(yAh r).length:=by unfold yGs yAh;rw [List.take_length,zLa]
theorem yJr {r:Rows} {i:Nat} {p:List UInt8 × List UInt8} (h:r[i]? = some p):yGs r (i+1)=yGs r i+(tx p.1).length+(tx p.2).length:=by
 unfold yGs
 rw [List.take_add_one,h,List.flatMap_append,zLa]
 simp only [Option.toList_some,zLr,List.flatMap_nil,zLs]
 unfold rowB
 rw [zLa]
 omega
theorem yVt {r:Rows} {i:Nat} {p:List UInt8 × List UInt8} (h:r[i]? = some p):∃ t,(yAh r).drop (yGs r i)=tx p.1++(tx p.2++t):=by
 obtain ⟨hi,he⟩:=zLc.1 h
 have e:r=r.take i++p::r.drop (i+1):=by rw [← he,← List.drop_eq_getElem_cons hi,zLu]
 have e2:r.flatMap rowB=(r.take i).flatMap rowB++(tx p.1++tx p.2++(r.drop (i+1)).flatMap rowB):=by
  conv=>lhs;rw [e]
  rw [List.flatMap_append,zLr]
  rfl
 refine ⟨(r.drop (i+1)).flatMap rowB,?_⟩
 unfold yAh
 rw [e2,← zLd,List.drop_left' (by unfold yGs;rw [zLa]),zLd]
theorem yHc {r:Rows} {i:Nat} {p:List UInt8 × List UInt8} (h:r[i]? = some p) (hl:(yAh r).length≤4611686018427387904) :
 ∃ t u,rtx (yAh r).length ((yAh r).drop (yGs r i))=.ok p.1 t∧rtx (yAh r).length ((yAh r).drop (yGs r i+(tx p.1).length))=.ok p.2 u∧yGs r i+(tx p.1).length+(tx p.2).length≤(yAh r).length:=by
 obtain ⟨t,ht⟩:=yVt h
 have hd:=congrArg List.length ht
 rw [zLf,zLa,zLa] at hd
 have h1:=yIh p.1
 have h2:=yIh p.2
 refine ⟨tx p.2++t,t,?_,?_,zO⟩
 ·rw [ht]
  exact yO1 _ _ _ zO zO
 ·rw [← List.drop_drop,ht,List.drop_left]
  exact yO1 _ _ _ zO zO
theorem yCB (r:Rows):r.length≤(r.flatMap rowB).length:=by
 induction r with
 |nil=>exact Nat.le_refl _
 |cons p r ih=>
  have h1:=yIh p.1
  have e:(rowB p).length=(tx p.1).length+(tx p.2).length:=by unfold rowB;rw [zLa]
  rw [zLr,zLa,zLj,e]
  omega
theorem yDk (r:Rows) (h:(yAh r).length≤4611686018427387904):ru ((yAh r).drop 0)=.ok r.length (r.flatMap rowB)∧r.length≤(yAh r).length:=by
 have h1:=yCB r
 have h2:(yAh r).length=(vu r.length).length+(r.flatMap rowB).length:=by unfold yAh;rw [zLa]
 exact ⟨by rw [zLo];exact yEJ _ zO _,zO⟩
theorem yPo {r:Rows} (h:RisR r) (i:Nat):RisR (r.take i):=List.Pairwise.sublist (List.take_sublist _ _) h
theorem yVu {r:Rows} (hr:RisR r) {i:Nat} {p:List UInt8 × List UInt8} (h:r[i]? = some p):yE4 (r.take i) p.1 p.2=r.take (i+1):=by
 have hT:=yPo hr i
 have hT2:=yPo hr (i+1)
 have e:r.take (i+1)=r.take i++[p]:=by rw [List.take_add_one,h];rfl
 refine yGP (yCm hT _ _) hT2 fun k=>?_
 rw [yEL hT,e,yIV]
 rw [e] at hT2
 by_cases hk:k=p.1
 ·have h0:lk (r.take i) k=none:=yFL fun q hq=>by
   rw [hk]
   exact (List.pairwise_append.1 hT2).2.2 q hq p zW
  rw [if_pos hk,h0]
  show some p.2=(if p.1=k then some p.2 else none)
  rw [if_pos hk.symm]
 ·rw [if_neg hk]
  have:lk [p] k=none:=by
   show (if p.1=k then some p.2 else none)=none
   rw [if_neg (fun q=>hk q.symm)]
  rw [this,Option.or_none]
theorem yPp {r:Rows} (hr:RisR r) {i:Nat} {p q:List UInt8 × List UInt8} (h1:r[i]? = some p) (h2:r[i+1]? = some q):Op.bytesLess p.1 q.1=true:=by
 obtain ⟨a1,b1⟩:=zLc.1 h1
 obtain ⟨a2,b2⟩:=zLc.1 h2
 have:=List.pairwise_iff_getElem.1 hr i (i+1) a1 a2 zO
 rw [b1,b2] at this
 exact this
theorem Good.logE {n v:Nat} {r:Rows} {D:Dsk} (h:Good n r v D) (h1:64≤n) (h2:n≤65536) (hv:1≤v∧v≤1099511627776) (f:Nat):yEY D (yAK n:Nat) (yA2 n:Nat) v (f+1) 0 []=[]:=by
 obtain ⟨f1,f2,f3,f4⟩:=yAO h1 v
 have hn:=h.nn
 have h0:0<yA2 n:=by unfold yA2 yAu;omega
 have hp:yCG D (yAK n:Nat) (yA2 n:Nat) v 0=none:=by
  obtain ⟨r1,r2⟩:=yQo h.rest.calm h.rest.und (yAK n+0) zO
  have e:((yAK n:Nat):Int)+((0:Nat):Int)=((yAK n+0:Nat):Int):=zO
  unfold yCG
  rw [if_neg zO,e,if_neg (by rw [r1];simp),r2]
  exact yKl (yLx hv.2 zO) (h.log 0 h0)
 show (match yEF D (yAK n:Nat) (yA2 n:Nat) v 0 with|none=>[]|some (s,u)=>yEY D (yAK n:Nat) (yA2 n:Nat) v f (0+u.toNat) ([]++[s]))=[]
 rw [yG5 hp]
abbrev stC (d q n:Nat) (v:Int) (lg:Option Addr) (life:Int) (dead:Bool):List Value:=
 [zPp d,.int .i64 2,.int .i64 (2+yAu n:Nat),.int .i64 (yAu n:Nat),.int .i64 (yAK n:Nat),.int .i64 (yA2 n:Nat),zPp q,.int .i64 v,.pointer lg,.int .i64 life,.bool dead]
abbrev stP (s d q n:Nat) (v:Int) (lg:Option Addr) (life:Int) (dead:Bool):SP:=yAi s (stC d q n v lg life dead) 84
abbrev yMU (n:Nat):List Value:=[.int .i64 2,.int .i64 (2+yAu n:Nat),.int .i64 (yAu n:Nat),.int .i64 (yAK n:Nat),.int .i64 (yA2 n:Nat)]
theorem yA8 {n:Nat} (h:n≤65536):yAu n≤21845:=by unfold yAu;omega
section
variable {W:World} {N:List Nd} {a:Option Addr} {r:Rows} {p q s d n:Nat} {b:Int} {D:Dsk}
instance yXP:FnIs prog 59:=⟨zK⟩
theorem yOo (h1:64≤n) (h2:n≤65536):CtU prog W 59 [.int .i64 (n:Nat)] [] (.agg (yMU n).toArray) []:=by
 have hq:((n:Int)-2) / 3=(yAu n:Nat):=by unfold yAu;omega
 have hA:=yA8 h2
 have e1:(2:Int)+(yAu n:Nat)=(2+yAu n:Nat):=zO
 have e2:(2:Int)*(yAu n:Nat)=(2*yAu n:Nat):=zO
 have e3:(2:Int)+(2*yAu n:Nat)=(yAK n:Nat):=by unfold yAK;omega
 have e4:(n:Int)-2-(2*yAu n:Nat)=(yA2 n:Nat):=by unfold yA2 yAu;omega
 have b3:=yAO h1 0
 refine Ct.enter func59 rfl ntmps59 zW (fun R=>?_)
 repeat' (first|refine yAs ?_;refine yAq rfl (fun g=>?_)|(refine yAB ?_;first|refine yAa (ySw (t:=78) (vs:=[.int .i64 2,.int .i64 (2+yAu n:Nat)]) xV zK) ?_|refine yAa (yAC xV xW) ?_)|refine yAa (yAd rfl rfl e3 zO) ?_|refine yAa (yAd rfl rfl e1 zO) ?_|refine yAa (yBG rfl rfl e4 zO) ?_|refine yAa (yAG rfl rfl e2 zO) ?_|refine yDK ?_;refine yAa (yD8 rfl rfl zO hq) ?_|refine xst ?_|refine xsa ?_;intro _|refine xsb ?_ ?_<;>intro _<;>try omega|refine xsc ?_|fail)
 all_goals (refine yCy ?_;exact yAR (by first|exact Or.inl rfl|exact Or.inr rfl) rfl (Rvs.agg (T:=80) rfl inferInstance inferInstance xS xC Rvs.nil) () (by rfl) (xN))
end
section
variable {W:World} {F:Nat→Addr} {N:List Nd} {a:Option Addr} {r:Rows} {q s d n:Nat} {b:Int} {D:Dsk}
instance yXQ:FnIs prog 66:=⟨zK⟩
abbrev yWz (g d:Nat) (n v:Nat) (life:Int):SP:=yAi g [zPp d,.int .i64 (yAK n:Nat),.int .i64 (yA2 n:Nat),.int .i64 (v:Nat),.int .i64 0,.int .i64 life,.bool false] 164
theorem yHd (hE:ErrsOn L8 W F) (hN:NibAt W) (h1:64≤n) (h2:n≤65536) (v:Nat) (hv:v+1≤1099511627776) (lg:Option Addr) (life:Int) (dead:Bool) (hT:TbOk N a r) (hn:D.n=n) (hr:(yAh r).length≤234*yAu n) (hul:D.und.length+65536<1073741823)
 (hA:(yA7 D (yAt n (v+1)) (yAu n) ((v+1:Nat):Int) (yAh r)).1=0) (hu2:(yCl D n (v+1) r).und=[]) (hn2:(yCl D n (v+1) r).n=n) (hS:yBu (yCl D n (v+1) r) 0 ((v+1:Nat):Int) (yBd n (yAh r).length)=0) (ho:(yDU D n (v+1) r).off=false) (hn3:(yDU D n (v+1) r).n=n) :
 Ct prog W 32 [zPp s] [stP s d q n (v:Nat) lg life dead,DiskP d D,tbP q a b,arP N] (fun _:Nat=>.nilIface)
  (fun g=>[stP s d q n ((v+1:Nat):Int) (some ⟨g,0,none⟩) life dead,DiskP d (yDU D n (v+1) r),tbP q a b,arP N,yWz g d n (v+1) (yDU D n (v+1) r).life]):=by
 obtain ⟨f1,f2,f3,f4⟩:=yAO h1 (v+1)
 have hA2:=yA8 h2
 have cs:=yGr (W:=W) (p:=q) (b:=b) hT zO
 have cA:CtU prog W 69 [zPp d,.int .i64 (yAt n (v+1):Nat),.int .i64 (yAu n:Nat),.int .u64 ((v+1:Nat):Int),strV (yAh r)] [DiskP d D] .nilIface [DiskP d (yCl D n (v+1) r)]:=by
  have:=yI6 (W:=W) (p:=d) (D:=D) hE hN zO hul (yAt n (v+1):Nat) (yAu n:Nat) ((v+1:Nat):Int) (yAh r)
  rw [hA] at this
  exact this
 have cW:CtU prog W 70 [zPp d,.int .i64 0,.int .i64 ((v+1:Nat):Int),strV (yBd n (yAh r).length)] [DiskP d (yCl D n (v+1) r)] .nilIface [DiskP d (yDU D n (v+1) r)]:=by
  have:=yMy (W:=W) (p:=d) (D:=yCl D n (v+1) r) hE hN zO (by rw [hu2];simp) 0 ((v+1:Nat):Int) (yBd n (yAh r).length)
  rw [hS] at this
  exact this
 have cB:=yVd (W:=W) (p:=d) (D:=yDU D n (v+1) r) zO ho (yAK n:Nat) (yA2 n:Nat) ((v+1:Nat):Int) ⟨zO,zO,zO,zO,zO,zO,zO⟩
 obtain ⟨D1,hD1⟩:∃ D1,D1=yCl D n (v+1) r:=⟨_,rfl⟩
 obtain ⟨D2,hD2⟩:∃ D2,D2=yDU D n (v+1) r:=⟨_,rfl⟩
 rw [← hD1,← hD2] at cW
 rw [← hD1] at cA
 rw [← hD2] at cB ⊢
 clear hA hS hD1 hD2 hu2 hn2
 have csz:CtU prog W 25 [zPp d] [DiskP d D] (.int .i64 (n:Nat)) [DiskP d D]:=by
  have:=yBs (W:=W) (p:=d) (D:=D)
  rw [hn] at this
  exact this
 obtain ⟨L,hL⟩:∃ L,L=yAh r:=⟨_,rfl⟩
 rw [← hL] at hr cs cA cW
 clear hL
 have cn:=yJe (W:=W)
 have cu1:∀ g,CtU prog W 68 [zPp g,.int .u64 (n:Nat)] [WrP g []] (.tuple #[]) [WrP g (vu n)]:=fun g=>by
  have:=yDx (W:=W) (p:=g) (l:=[]) n zO zW
  rw [List.nil_append] at this
  exact this
 have hvn:=yBO n
 have hvp:=yB9 n
 have cu2:∀ g,CtU prog W 68 [zPp g,.int .u64 (L.length:Nat)] [WrP g (vu n)] (.tuple #[]) [WrP g (yBd n L.length)]:=fun g=>yDx (W:=W) (p:=g) (l:=vu n) L.length zO zO
 have co:∀ g,CtU prog W 71 [zPp g] [WrP g (yBd n L.length)] (strV (yBd n L.length)) [WrP g (yBd n L.length)]:=fun g=>yJh (W:=W) (by unfold yBd;rw [zLa];omega)
 have w1:IntKind.u64.wrap ((n:Nat):Int)=((n:Nat):Int):=yAo _ zO
 have w2:IntKind.u64.wrap ((L.length:Nat):Int)=((L.length:Nat):Int):=yAo _ zO
 have w3:IntKind.u64.wrap ((v+1:Nat):Int)=((v+1:Nat):Int):=yAo _ zO
 have q0:decide ((1099511627776:Int)≤(v:Nat))=false:=zZ zO
 have fin:∀ m:Nat,((v+1:Nat):Int) % 2=(m:Nat)→(stC d q n (v:Nat) lg life dead)[0+1+0+((m:Nat):Int).toNat*1]? = some (.int .i64 (yAt n (v+1):Nat)):=fun m hm=>by
  unfold yAt
  rcases (show m=0∨m=1 by omega) with rfl|rfl
  ·rw [if_pos zO];rfl
  ·rw [if_neg zO];rfl
 obtain ⟨m,hm⟩:∃ m:Nat,((v+1:Nat):Int) % 2=(m:Nat):=⟨(v+1) % 2,zO⟩
 have hx:=fin m hm
 have hm2:m<2:=zO
 clear fin
 refine Ct.enter func32 rfl ntmps32 zW (fun R=>?_)
 repeat' (first|(refine yAb ?_;first|refine xca cB fun g=>?_|refine xca cW fun _=>?_|refine xca cA fun _=>?_|refine xca (co _) fun _=>?_|refine xca (cu2 _) fun _=>?_|refine xca (cu1 _) fun _=>?_|refine xca csz fun _=>?_|refine xca cn fun pw=>?_|refine xca cs fun _=>?_)|refine yAj ?_;refine yAa (yDm rfl xS hx) ?_|refine yAa (yAg rfl w3) ?_|refine yAa (yAg rfl w2) ?_|refine yAa (yAg rfl w1) ?_|refine yAa (yAd (r:=((v+1:Nat):Int)) rfl rfl zO zO) ?_|refine yAa (yAZ rfl rfl zO hm) ?_|refine yAa (yAm rfl rfl q0) ?_|refine xst ?_|refine xsa ?_;intro _|refine xsb ?_ ?_<;>intro _<;>try omega|refine xsc ?_|refine xdr 3 yZp ?_|refine xdr 7 yZq ?_|refine xdr 10 yZr ?_|refine xsd ?_ ?_|exact Rech.nil|fail)
 all_goals (exact xdn g)
end
section
variable {W:World} {F:Nat→Addr} {q s d n g:Nat} {D:Dsk}
instance xAx:FnIs prog 83:=⟨zK⟩
theorem yFv:CtU prog W 83 [.nilIface] [] (.tuple #[]) []:=by
 refine Ct.enter func83 rfl ntmps83 zW (fun R=>?_)
 repeat' (first|refine xst ?_|refine xsa ?_;intro _|refine xsb ?_ ?_<;>intro _<;>try omega|refine xsc ?_|exact xdn ()|fail)
theorem yCC (e:Value):CtU prog W 89 [.bool true,e] [] (.tuple #[]) []:=by
 refine Ct.enter func89 rfl ntmps89 zW (fun R=>?_)
 repeat' (first|refine xst ?_|refine xsa ?_;intro _|refine xsb ?_ ?_<;>intro _<;>try omega|refine xsc ?_|exact xdn ()|fail)
theorem yCq (hE:ErrsOn L16 W F):CtU prog W 86 [.nilIface] [] (.tuple #[]) []:=by
 have e12:W.cell? ⟨2,0,none⟩=some (yAr F 12):=hE.at_ 12 zX
 have e15:W.cell? ⟨17,0,none⟩=some (yAr F 15):=hE.at_ 15 zX
 have cu:=yCC (W:=W) (yAr F 15)
 have cm:=yFv (W:=W)
 refine Ct.enter func86 rfl ntmps86 zW (fun R=>?_)
 repeat' (first|(refine yAb ?_;first|refine xca cm fun _=>?_|refine xca cu fun _=>?_)|(refine yAj ?_;first|refine yAa (yAn rfl e15) ?_|refine yAa (yAn rfl e12) ?_)|refine yAa (ySy (a:=0) (b:=12) hE rfl rfl (.inl rfl) zX rfl) ?_|refine xst ?_|refine xsa ?_;intro _|refine xsb ?_ ?_<;>intro _<;>try omega|refine xsc ?_|refine xdr 1 yZs ?_|refine xsd ?_ ?_|exact Rech.nil|exact xdn ()|fail)
theorem yCr (v:Int) (lg:Option Addr) (life:Int) (dead:Bool) (h2:n≤65536):CtU prog W 31 [zPp s] [stP s d q n v lg life dead] (.int .i64 (234*yAu n:Nat)) [stP s d q n v lg life dead]:=by
 have hA:=yA8 h2
 have cr:CtU prog W 65 [.int .i64 (yAu n:Nat)] [] (.int .i64 (234*yAu n:Nat)) []:=by
  have:=yLr (W:=W) (yAu n:Nat)
  rw [show yCb (yAu n:Nat)=(234*yAu n:Nat) by unfold yCb;omega] at this
  exact this
 refine Ct.enter func31 rfl ntmps31 zW (fun R=>?_)
 repeat' (first|refine yAb ?_;refine xca cr fun _=>?_|refine xst ?_|refine xsa ?_;intro _|refine xsb ?_ ?_<;>intro _<;>try omega|refine xsc ?_|exact xdn ()|fail)
end
section
variable {P:Program} {W:World} {n:Nat} {k:KK} {E:Env} {H R:List SP} {x z:Operand} {t e:TypeId}
theorem Ct.rowSl {P:Program} {W:World} {f:FuncId} {args:List Value} {Hpre:List SP} {A:SP} {e size m:Nat} {xs:List Value} (h:Ct P W f args Hpre (fun v:Value=>.tuple #[v,.nilIface]) (fun v=>[A,yAP v e size m xs])) :
 Ct P W f args Hpre (fun x:Option Addr × Nat=>.tuple #[.slice x.1 m x.2,.nilIface]) (fun x=>[A,yAP (.slice x.1 m x.2) e size m xs]):=
 ⟨fun R w s=>(h.go R w s).mono fun en w' ⟨v,he,st⟩=>by
  have hrow:=St.row (v:=v) (e:=e) (size:=size) (n:=m) (xs:=xs) st (.there .here)
  rcases hrow.2 with ⟨hv,q⟩|⟨g,cap,cur,hv,_⟩
  ·subst hv
   subst q
   exact ⟨(none,0),he,st⟩
  ·subst hv
   exact ⟨(some ⟨g,0,none⟩,cap),he,st⟩⟩
end
section
variable {W:World} {E:Nat→Addr} {p g:Nat} {D:Dsk}
theorem yS8 (hE:ErrsOn L8 W E) (at_ n ver used life:Int) (hdn:yDW D life false=false) (hul:D.und.length<1073741823):CtU prog W 50 [zPp g] [DiskP p D,yAi g [zPp p,.int .i64 at_,.int .i64 n,.int .i64 ver,.int .i64 used,.int .i64 life,.bool false] 164] (yAr E (if D.flushE=0 then 0 else 12)) [DiskP p D.flushD,yAi g [zPp p,.int .i64 at_,.int .i64 n,.int .i64 ver,.int .i64 used,.int .i64 life,.bool (decide (D.flushE≠0))] 164]:=by
 have e12:W.cell? ⟨2,0,none⟩=some (yAr E 12):=hE.at_ 12 zX
 have c1:=ySH (W:=W) (p:=p) (g:=g) (D:=D) at_ n ver used life false
 rw [hdn] at c1
 have c2:=yK9 (W:=W) (p:=p) (D:=D) hE zO
 obtain ⟨D1,hD1⟩:∃ D1,D1=D.flushD:=⟨_,rfl⟩
 obtain ⟨e,he⟩:∃ e,e=D.flushE:=⟨_,rfl⟩
 rw [← hD1,← he]
 rw [← hD1,← he] at c2
 clear hD1 he
 by_cases hz:e=0
 ·subst hz
  have c2':CtU prog W 106 [zPp p] [DiskP p D] .nilIface [DiskP p D1]:=c2
  refine Ct.enter func50 rfl ntmps50 zW (fun R=>?_)
  repeat' (first|(refine yAb ?_;first|refine xca c2' fun _=>?_|refine xca c1 fun _=>?_)|refine xst ?_|refine xsa ?_;intro _|refine xsb ?_ ?_<;>intro _<;>try omega|refine xsc ?_|exact xdn ()|fail)
 ·obtain ⟨ea,hea⟩:=yCW (E:=E) hz
  rw [hea] at c2
  rw [if_neg hz,zY (show e≠0 from hz)]
  refine Ct.enter func50 rfl ntmps50 zW (fun R=>?_)
  repeat' (first|(refine yAb ?_;first|refine xca c2 fun _=>?_|refine xca c1 fun _=>?_)|refine yAj ?_;refine yAa (yAn rfl e12) ?_|refine xst ?_|refine xsa ?_;intro _|refine xsb ?_ ?_<;>intro _<;>try omega|refine xsc ?_|exact xdn ()|fail)
end
section
variable {W:World} {F:Nat→Addr} {q s d n g:Nat} {D:Dsk}
instance yYA:FnIs prog 91:=⟨zK⟩
end
section
variable {W:World} {F:Nat→Addr} {q s d n g:Nat} {D:Dsk}
instance xAy:FnIs prog 28:=⟨zK⟩
instance xAz:FnIs prog 30:=⟨zK⟩
theorem yFw (h1:64≤n) (h2:n≤65536) (hn:D.n=n):Ct prog W 28 [zPp d] [DiskP d D] (fun x:Nat × Nat=>.pointer (some ⟨x.1,0,none⟩)) (fun x=>[stP x.1 d x.2 n 0 none D.life false,DiskP d D,tbP x.2 none 0]):=by
 have csz:CtU prog W 25 [zPp d] [DiskP d D] (.int .i64 (n:Nat)) [DiskP d D]:=by
  have:=yBs (W:=W) (p:=d) (D:=D)
  rw [hn] at this
  exact this
 have cl:=yOo (W:=W) h1 h2
 have ct:=yOj (W:=W)
 have cf:=yK6 (W:=W) (p:=d) (D:=D)
 refine Ct.enter func28 rfl ntmps28 zW (fun R=>?_)
 repeat' (first|refine yA4 ?_;refine yA3 rfl xF rfl (fun s=>?_)|(refine yAb ?_;first|refine xca cf fun _=>?_|refine xca ct fun q=>?_|refine xca cl fun _=>?_|refine xca csz fun _=>?_)|refine yAB ?_;refine yAa (yAC xV xW) ?_|refine xst ?_|refine xsa ?_;intro _|refine xsb ?_ ?_<;>intro _<;>try omega|refine xsc ?_|fail)
 all_goals (exact xdn (s,q))
instance xAA:FnIs prog 32:=⟨zK⟩
end
structure UE where
 key:List UInt8
 old:List UInt8
 there:Bool
 gt:Nat
 gk:Nat
 go:Nat
 gh:Nat
structure TxH where
 q:Nat
 a:Option Addr
 b:Int
 N:List Nd
 m:Nat
 ua:Option Addr
 uc:Nat
section
variable {W:World} {F:Nat→Addr} {N:List Nd} {a:Option Addr} {r:Rows} {q s d n:Nat} {b:Int}
instance yZ3:FnIs prog 10:=⟨zK⟩
theorem yPq (v:Int) (lg:Option Addr) (life:Int) (dead:Bool) (hT:TbOk N a r) (hl:r.length*32≤140737488355328) :
 Ct prog W 10 [zPp s] [stP s d q n v lg life dead,tbP q a b,arP N] (fun x:Option Addr × Nat=>.slice x.1 r.length x.2) (fun x=>[stP s d q n v lg life dead,tbP q a b,arP N,lsP rC 62 2 (.slice x.1 r.length x.2) r]):=by
 have cr:=yVr (W:=W) (p:=q) (b:=b) hT hl
 refine Ct.enter func10 rfl ntmps10 zW (fun R=>?_)
 repeat' (first|refine yAb ?_;refine xca cr fun x=>?_|refine xst ?_|refine xsa ?_;intro _|refine xsb ?_ ?_<;>intro _<;>try omega|refine xsc ?_|fail)
 all_goals (exact xdn x)
end
structure RdyS (n v:Nat) (D:Dsk):Prop where
 rest:Rest D
 nn:D.n=n
 slot:∃ l,Holds D 0 v l
theorem Ready.s {n v:Nat} {D:Dsk} (h:Ready n v D):RdyS n v D:=⟨h.rest,h.nn,h.slot⟩
theorem Good.s {n v:Nat} {r:Rows} {D:Dsk} (h:Good n r v D):RdyS n v D:=h.ready.s
theorem RdyS.fold {n v:Nat} {D:Dsk} (h:RdyS n v D) (r:Rows) (h1:64≤n) (h2:n≤65536) (hv:v+1≤1099511627776) (hr:(yAh r).length≤234*yAu n) :
 (yA7 D (yAt n (v+1)) (yAu n) ((v+1:Nat):Int) (yAh r)).1=0∧yBu (yCl D n (v+1) r) 0 ((v+1:Nat):Int) (yBd n (yAh r).length)=0∧RdyS n (v+1) (yDU D n (v+1) r)∧(yDU D n (v+1) r).life=D.life∧(yCl D n (v+1) r).und=[]∧(yCl D n (v+1) r).n=n∧(yDU D n (v+1) r).off=false:=by
 obtain ⟨f1,f2,f3,f4⟩:=yAO h1 (v+1)
 obtain ⟨l,hl⟩:=h.slot
 have hn:=h.nn
 obtain ⟨a1,a2,a3,a4,a5,a6⟩:=yHb h.rest (yAt n (v+1)) (yAu n) (v+1) (yAh r) zO zO hr (by unfold yAu;omega)
 have hA:(yA7 D (yAt n (v+1)) (yAu n) ((v+1:Nat):Int) (yAh r)).2=yCl D n (v+1) r:=rfl
 rw [hA] at a2 a3 a4 a5 a6
 have hl2:Holds (yCl D n (v+1) r) 0 v l:=hl.keep fun k hk=>by
  refine a6 _ zO (.inl zO)
 have hh:=yB3 n (yAh r).length
 obtain ⟨b1,b2,b3,b4,b5⟩:=yEs a2 0 (v+1) (yBd n (yAh r).length) zO zO hv zO
 have hS:=Holds.next a2 zO hl2 hv (show (yBd n (yAh r).length).length≤234 by omega)
 exact ⟨a1,b1,⟨b2,b3.trans (a3.trans hn),_,hS⟩,(yJo _ _ _ _).trans a4,a2.und,a3.trans hn,b2.calm.1⟩
def yWA (D:Dsk) (n v used:Nat) (rc:List UInt8):Dsk:=(yEi (yAK n:Nat) v used (yCK rc) 0 D).2.flushD
theorem RdyS.log {n v used:Nat} {D:Dsk} (h:RdyS n v D) (h1:64≤n) (rc:List UInt8) (hf:used+(yCK rc).length≤yA2 n):RdyS n v (yWA D n v used rc)∧(yWA D n v used rc).life=D.life:=by
 obtain ⟨f1,f2,f3,f4⟩:=yAO h1 v
 have hn:=h.nn
 obtain ⟨l,hl⟩:=h.slot
 obtain ⟨p1,p2,p3,p4,p5,p6,p7,p8,p9,p10⟩:=yOn h.rest (at_:=yAK n) (v:=v) (used:=used) (yLw rc) zO
 exact ⟨⟨p7,p8.trans hn,l,hl.keep fun k hk=>p10 _ zO (.inl zO)⟩,p9⟩
theorem yQE {len n:Nat} (hn:1≤n) (hn2:n≤65536) (h:(len:Int)≤yBw (n:Nat)):yBQ len≤(n:Nat):=by
 have e:yBw (n:Nat)=229+233*((n:Int)-1):=by
  unfold yBw
  rw [if_neg zO,yCF (233*((n:Int)-1)) zO,yCF _ zO]
 rw [e] at h
 unfold yBQ
 split
 ·omega
 ·split <;> omega
theorem yJs {n:Nat} (hn:1≤n) (hn2:n≤65536):yBw (n:Nat)=229+233*((n:Int)-1):=by
 unfold yBw
 rw [if_neg zO,yCF (233*((n:Int)-1)) zO,yCF _ zO]
def yJt (n:Nat) (r:Rows) (ops:List BOp):Nat:=if yA1 ops=[] then 0 else if yBw (yA2 n:Nat)<((yBN (yA1 ops)).length:Nat) then 18 else if 234*yAu n<(yAh (yAJ r (yA1 ops))).length then 17 else 0
def yQF (n:Nat) (r:Rows) (ops:List BOp):Rows:=if yJt n r ops=0 then yAJ r (yA1 ops) else r
theorem yJu (ops:List BOp):yEw (yA1 ops)=(yBN (yA1 ops),0):=by
 unfold yEw
 have h1:yEv (yA1 ops)=true:=risesB_iff.2 (yId ops)
 have h2:(yA1 ops).all yJc=true:=List.all_eq_true.2 fun x hx=>formB_iff.2 (ySc hx)
 rw [h1,h2,if_neg zW,if_neg zW]
theorem yHe {D:Dsk} (h:yJS D) (i:Int) (s:List UInt8):(D.writeD i s).flushes=D.flushes:=by
 have h1:yJS ({ D with und:=D.und++[(i.toNat,s)] }:Dsk):=h
 unfold Dsk.writeD
 simp only [yG0 h1]
 repeat' split
 all_goals rfl
theorem yHf {D:Dsk} (h:yJS D):D.flushD.flushes=w64 (D.flushes+1):=by
 unfold Dsk.flushD
 rw [if_neg (by rw [h.1];simp),if_neg (by rw [yEr h];simp)]
theorem xAB (at_:Int) (ver used:Nat):∀ (ps:List (List UInt8)) (i:Nat) (D:Dsk),yJS D→(yEi at_ ver used ps i D).2.flushes=D.flushes:=by
 intro ps
 induction ps with
 |nil=>intro i D _;rfl
 |cons p ps ih=>
  intro i D h
  unfold yEi
  split
  ·exact yHe h _ _
  ·rw [ih _ _ (yEP h _ _).1,yHe h]
theorem xAC (at_ stamp:Int):∀ (f:Nat) (D:Dsk) (i:Int) (v:List UInt8),yJS D→(yC0 at_ stamp f D i v).1=0→(yC0 at_ stamp f D i v).2.flushes=w64 (D.flushes+1):=by
 intro f
 induction f with
 |zero=>intro D i v h _;exact yHf h
 |succ f ih=>
  intro D i v h h0
  unfold yC0 at h0 ⊢
  by_cases hv:v=[]
  ·rw [if_pos hv];exact yHf h
  ·rw [if_neg hv] at h0 ⊢
   by_cases hw:D.writeE (at_+i) (yAx stamp (v.take 234))≠0
   ·rw [if_pos hw] at h0
    exact absurd h0 hw
   ·rw [if_neg hw] at h0 ⊢
    rw [ih _ _ _ (yEP h _ _).1 h0,yHe h]
theorem yXR {D:Dsk} (h:yJS D) (a n s:Int) (v:List UInt8) (h0:(yA7 D a n s v).1=0):(yA7 D a n s v).2.flushes=w64 (D.flushes+1):=by
 unfold yA7 at h0 ⊢
 by_cases h1:D.mayB a n=false
 ·rw [if_pos h1] at h0;cases h0
 rw [if_neg h1] at h0 ⊢
 by_cases h2:s=0
 ·rw [if_pos h2] at h0;cases h0
 rw [if_neg h2] at h0 ⊢
 by_cases h3:yCb n<(v.length:Int)
 ·rw [if_pos h3] at h0;cases h0
 rw [if_neg h3] at h0 ⊢
 have h4:¬ (D.off=true):=by rw [h.1];simp
 rw [if_neg h4] at h0 ⊢
 exact xAC _ _ _ _ _ _ h h0
theorem yXS {D:Dsk} (h:yJS D) (a v:Int) (s:List UInt8) (h0:yBu D a v s=0):(yA6 D a v s).flushes=w64 (D.flushes+1):=by
 unfold yBu at h0
 unfold yA6
 by_cases h1:yCg D a v=false
 ·rw [if_pos h1] at h0;cases h0
 rw [if_neg h1] at h0 ⊢
 by_cases h2:234<s.length
 ·rw [if_pos h2] at h0;cases h0
 rw [if_neg h2] at h0 ⊢
 by_cases h3:D.writeE (a+v % 2) (yAx v s)≠0
 ·rw [if_pos h3] at h0
  exact absurd h0 h3
 rw [if_neg h3]
 have hc:yJS (yCV D a v s):=(yEP h _ _).1
 rw [yHf hc]
 have e:(yCV D a v s).flushes=D.flushes:=yHe h _ _
 rw [e]
theorem RdyS.log_fl {n v used:Nat} {D:Dsk} (h:RdyS n v D) (rc:List UInt8):(yWA D n v used rc).flushes=w64 (D.flushes+1):=by
 unfold yWA
 rw [yHf (yPn _ _ _ _ _ _ h.rest.calm),xAB _ _ _ _ _ _ h.rest.calm]
theorem RdyS.fold_fl {n v:Nat} {D:Dsk} (h:RdyS n v D) (r:Rows) (h1:64≤n) (h2:n≤65536) (hv:v+1≤1099511627776) (hr:(yAh r).length≤234*yAu n) :
 (yDU D n (v+1) r).flushes=w64 (w64 (D.flushes+1)+1):=by
 obtain ⟨f1,f2,f3,f4⟩:=yAO h1 (v+1)
 have hn:=h.nn
 have hA:yAu n≤65536:=by unfold yAu;omega
 obtain ⟨a1,a2,a3,-,-,-⟩:=yHb h.rest (yAt n (v+1)) (yAu n) (v+1) (yAh r) zO zO hr zO
 have e1:(yCl D n (v+1) r).flushes=w64 (D.flushes+1):=yXR h.rest.calm _ _ _ _ a1
 have hh:(yBd n (yAh r).length).length≤234:=Nat.le_trans (yB3 _ _) zO
 obtain ⟨b1,-,-,-,-⟩:=yEs (a:=0) (v:=v+1) a2 (s:=yBd n (yAh r).length) zO zO hv hh
 have e2:=yXS (D:=(yA7 D (yAt n (v+1)) (yAu n) ((v+1:Nat):Int) (yAh r)).2) a2.calm _ _ _ b1
 show (yA6 (yCl D n (v+1) r) ((0:Nat):Int) ((v+1:Nat):Int) (yBd n (yAh r).length)).flushes=_
 rw [← e1]
 exact e2
end Go.Proofs.YtlnbkbfblhofbaaGreatDoor
