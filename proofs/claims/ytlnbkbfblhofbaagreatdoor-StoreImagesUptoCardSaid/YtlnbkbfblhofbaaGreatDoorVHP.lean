/-
  StX1, StQ1, StQ2, StQ3, StY4, StY5, StX2.
-/
import Derived.Test.YtlnbkbfblhofbaaGreatDoorVHS
set_option maxRecDepth 100000
set_option maxHeartbeats 64000000
namespace Go.Proofs.YtlnbkbfblhofbaaGreatDoor
open Go Go.RowKit
open Go.Proofs.Tryz
abbrev yWP:Pl:=(.op 0 (.op 1 (.op 2 (.op 3 (.op 4 (.op 5 (.op 6 (.op 7 (.op 8 (.ef 9 [4,3,2,1,0] (.op 10 (.op 11 .nil))))))))))))
abbrev yWQ:Pl:=(.op 0 (.op 1 (.op 2 (.op 3 (.op 4 (.op 5 (.op 6 (.op 7 (.op 8 (.op 9 (.op 10 (.op 11 (.op 12 (.op 13 (.op 14 (.op 15 (.op 16 (.op 17 (.op 18 (.op 19 (.ef 20 [] (.op 21 (.op 22 (.op 23 (.op 24 (.op 25 (.op 26 (.op 27 (.op 28 (.ef 29 [27,26,25,24,23] (.ef 30 [] (.op 31 (.op 32 .nil)))))))))))))))))))))))))))))))))
abbrev yWR:Pl:=(.op 0 (.op 1 (.op 2 (.op 3 (.op 4 (.op 5 (.op 6 (.op 7 (.op 8 (.op 9 (.op 10 (.op 11 (.op 12 (.op 13 (.op 14 (.ef 15 [] (.op 16 (.op 17 (.op 18 (.op 19 (.op 20 .nil)))))))))))))))))))))
abbrev yPH:Pl:=(.op 0 (.ef 1 [0] (.ef 2 [] .nil)))
abbrev yWS:Pl:=(.op 0 (.op 1 (.ef 2 [0] (.ef 3 [] (.ef 4 [] .nil)))))
section
variable {W:World} {F:Nat→Addr} {N:List Nd} {a:Option Addr} {r:Rows} {q s d n:Nat} {b:Int} {D:Dsk}
theorem yNc (hE:ErrsOn L8 W F) (hN:NibAt W) (h1:64≤n) (h2:n≤65536) (v:Nat) (hv:v+1≤1099511627776) (lg:Option Addr) (life:Int) (dead:Bool) (hT:TbOk N a r) (hn:D.n=n) (hr:(yAh r).length≤234*yAu n) (hul:D.und.length+65536<1073741823)
 (hA:(yA7 D (yAt n (v+1)) (yAu n) ((v+1:Nat):Int) (yAh r)).1=12) :
 Ct prog W 32 [zPp s] [stP s d q n (v:Nat) lg life dead,DiskP d D,tbP q a b,arP N] (fun _:Unit=>yAr F 12)
  (fun _=>[stP s d q n (v:Nat) lg life true,DiskP d (yCl D n (v+1) r),tbP q a b,arP N]):=by
 have e12:W.cell? ⟨2,0,none⟩=some (yAr F 12):=hE.at_ 12 zX
 have hne:=yIs (F:=F) (e:=12) zO
 obtain ⟨f1,f2,f3,f4⟩:=yAO h1 (v+1)
 have hA2:=yA8 h2
 have cs:=yGr (W:=W) (p:=q) (b:=b) hT zO
 have cA:CtU prog W 69 [zPp d,.int .i64 (yAt n (v+1):Nat),.int .i64 (yAu n:Nat),.int .u64 ((v+1:Nat):Int),strV (yAh r)] [DiskP d D] (yAr F 12) [DiskP d (yCl D n (v+1) r)]:=by
  have:=yI6 (W:=W) (p:=d) (D:=D) hE hN zO hul (yAt n (v+1):Nat) (yAu n:Nat) ((v+1:Nat):Int) (yAh r)
  rw [hA] at this
  exact this
 obtain ⟨D1,hD1⟩:∃ D1,D1=yCl D n (v+1) r:=⟨_,rfl⟩
 rw [← hD1] at cA ⊢
 clear hA hD1
 have csz:CtU prog W 25 [zPp d] [DiskP d D] (.int .i64 (n:Nat)) [DiskP d D]:=by
  have:=yBs (W:=W) (p:=d) (D:=D)
  rw [hn] at this
  exact this
 obtain ⟨L,hL⟩:∃ L,L=yAh r:=⟨_,rfl⟩
 rw [← hL] at hr cs cA
 clear hL
 have cn:=yJe (W:=W)
 have cu1:∀ g,CtU prog W 68 [zPp g,.int .u64 (n:Nat)] [WrP g []] (.tuple #[]) [WrP g (vu n)]:=fun g=>by
  have:=yDx (W:=W) (p:=g) (l:=[]) n zO zW
  rw [List.nil_append] at this
  exact this
 have hvn:=yBO n
 have hvp:=yB9 n
 have cu2:∀ g,CtU prog W 68 [zPp g,.int .u64 (L.length:Nat)] [WrP g (vu n)] (.tuple #[]) [WrP g (yBd n L.length)]:=fun g=>yDx (W:=W) (p:=g) (l:=vu n) L.length zO zO
 have co:∀ g,CtU prog W 71 [zPp g] [WrP g (yBd n L.length)] (strV (yBd n L.length)) [WrP g (yBd n L.length)]:=fun g=>yJh (W:=W) (by unfold yBd;rw [zLa];omega)
 have w1:IntKind.u64.wrap ((n:Nat):Int)=((n:Nat):Int):=yAo _ zO
 have w2:IntKind.u64.wrap ((L.length:Nat):Int)=((L.length:Nat):Int):=yAo _ zO
 have w3:IntKind.u64.wrap ((v+1:Nat):Int)=((v+1:Nat):Int):=yAo _ zO
 have q0:decide ((1099511627776:Int)≤(v:Nat))=false:=zZ zO
 have fin:∀ m:Nat,((v+1:Nat):Int) % 2=(m:Nat)→(stC d q n (v:Nat) lg life dead)[0+1+0+((m:Nat):Int).toNat*1]? = some (.int .i64 (yAt n (v+1):Nat)):=fun m hm=>by
  unfold yAt
  rcases (show m=0∨m=1 by omega) with rfl|rfl
  ·rw [if_pos zO];rfl
  ·rw [if_neg zO];rfl
 obtain ⟨m,hm⟩:∃ m:Nat,((v+1:Nat):Int) % 2=(m:Nat):=⟨(v+1) % 2,zO⟩
 have hx:=fin m hm
 have hm2:m<2:=zO
 clear fin
 refine Ct.enter func32 rfl ntmps32 zW (fun R=>?_)
 repeat' (first|(refine yAb ?_;first|refine xca cA fun _=>?_|refine xca (co _) fun _=>?_|refine xca (cu2 _) fun _=>?_|refine xca (cu1 _) fun _=>?_|refine xca csz fun _=>?_|refine xca cn fun pw=>?_|refine xca cs fun _=>?_)|(refine yAj ?_;first|refine yAa (yDm rfl xS hx) ?_|refine yAa (yAn rfl e12) ?_)|refine yAa (yAg rfl w3) ?_|refine yAa (yAg rfl w2) ?_|refine yAa (yAg rfl w1) ?_|refine yAa (yAd (r:=((v+1:Nat):Int)) rfl rfl zO zO) ?_|refine yAa (yAZ rfl rfl zO hm) ?_|refine yAa (yCc rfl hne) ?_|refine yAa (yAm rfl rfl q0) ?_|refine xst ?_|refine xsa ?_;intro _|refine xsb ?_ ?_<;>intro _<;>try omega|refine xsc ?_|refine xdr 3 yWP ?_|refine xdr 7 yWQ ?_|refine xdr 10 yWR ?_|refine xsd ?_ ?_|exact Rech.nil|exact xdn ()|fail)
theorem yNd (hE:ErrsOn L8 W F) (hN:NibAt W) (h1:64≤n) (h2:n≤65536) (v:Nat) (hv:v+1≤1099511627776) (lg:Option Addr) (life:Int) (dead:Bool) (hT:TbOk N a r) (hn:D.n=n) (hr:(yAh r).length≤234*yAu n) (hul:D.und.length+65536<1073741823)
 (hA:(yA7 D (yAt n (v+1)) (yAu n) ((v+1:Nat):Int) (yAh r)).1=0) (hu2:(yCl D n (v+1) r).und=[]) (hn2:(yCl D n (v+1) r).n=n) (hS:yBu (yCl D n (v+1) r) 0 ((v+1:Nat):Int) (yBd n (yAh r).length)=12) :
 Ct prog W 32 [zPp s] [stP s d q n (v:Nat) lg life dead,DiskP d D,tbP q a b,arP N] (fun _:Unit=>yAr F 12)
  (fun _=>[stP s d q n (v:Nat) lg life true,DiskP d (yDU D n (v+1) r),tbP q a b,arP N]):=by
 have e12:W.cell? ⟨2,0,none⟩=some (yAr F 12):=hE.at_ 12 zX
 have hne:=yIs (F:=F) (e:=12) zO
 obtain ⟨f1,f2,f3,f4⟩:=yAO h1 (v+1)
 have hA2:=yA8 h2
 have cs:=yGr (W:=W) (p:=q) (b:=b) hT zO
 have cA:CtU prog W 69 [zPp d,.int .i64 (yAt n (v+1):Nat),.int .i64 (yAu n:Nat),.int .u64 ((v+1:Nat):Int),strV (yAh r)] [DiskP d D] .nilIface [DiskP d (yCl D n (v+1) r)]:=by
  have:=yI6 (W:=W) (p:=d) (D:=D) hE hN zO hul (yAt n (v+1):Nat) (yAu n:Nat) ((v+1:Nat):Int) (yAh r)
  rw [hA] at this
  exact this
 have cW:CtU prog W 70 [zPp d,.int .i64 0,.int .i64 ((v+1:Nat):Int),strV (yBd n (yAh r).length)] [DiskP d (yCl D n (v+1) r)] (yAr F 12) [DiskP d (yDU D n (v+1) r)]:=by
  have:=yMy (W:=W) (p:=d) (D:=yCl D n (v+1) r) hE hN zO (by rw [hu2];simp) 0 ((v+1:Nat):Int) (yBd n (yAh r).length)
  rw [hS] at this
  exact this
 obtain ⟨D1,hD1⟩:∃ D1,D1=yCl D n (v+1) r:=⟨_,rfl⟩
 obtain ⟨D2,hD2⟩:∃ D2,D2=yDU D n (v+1) r:=⟨_,rfl⟩
 rw [← hD1,← hD2] at cW
 rw [← hD1] at cA
 rw [← hD2]
 clear hA hS hD1 hD2 hu2 hn2
 have csz:CtU prog W 25 [zPp d] [DiskP d D] (.int .i64 (n:Nat)) [DiskP d D]:=by
  have:=yBs (W:=W) (p:=d) (D:=D)
  rw [hn] at this
  exact this
 obtain ⟨L,hL⟩:∃ L,L=yAh r:=⟨_,rfl⟩
 rw [← hL] at hr cs cA cW
 clear hL
 have cn:=yJe (W:=W)
 have cu1:∀ g,CtU prog W 68 [zPp g,.int .u64 (n:Nat)] [WrP g []] (.tuple #[]) [WrP g (vu n)]:=fun g=>by
  have:=yDx (W:=W) (p:=g) (l:=[]) n zO zW
  rw [List.nil_append] at this
  exact this
 have hvn:=yBO n
 have hvp:=yB9 n
 have cu2:∀ g,CtU prog W 68 [zPp g,.int .u64 (L.length:Nat)] [WrP g (vu n)] (.tuple #[]) [WrP g (yBd n L.length)]:=fun g=>yDx (W:=W) (p:=g) (l:=vu n) L.length zO zO
 have co:∀ g,CtU prog W 71 [zPp g] [WrP g (yBd n L.length)] (strV (yBd n L.length)) [WrP g (yBd n L.length)]:=fun g=>yJh (W:=W) (by unfold yBd;rw [zLa];omega)
 have w1:IntKind.u64.wrap ((n:Nat):Int)=((n:Nat):Int):=yAo _ zO
 have w2:IntKind.u64.wrap ((L.length:Nat):Int)=((L.length:Nat):Int):=yAo _ zO
 have w3:IntKind.u64.wrap ((v+1:Nat):Int)=((v+1:Nat):Int):=yAo _ zO
 have q0:decide ((1099511627776:Int)≤(v:Nat))=false:=zZ zO
 have fin:∀ m:Nat,((v+1:Nat):Int) % 2=(m:Nat)→(stC d q n (v:Nat) lg life dead)[0+1+0+((m:Nat):Int).toNat*1]? = some (.int .i64 (yAt n (v+1):Nat)):=fun m hm=>by
  unfold yAt
  rcases (show m=0∨m=1 by omega) with rfl|rfl
  ·rw [if_pos zO];rfl
  ·rw [if_neg zO];rfl
 obtain ⟨m,hm⟩:∃ m:Nat,((v+1:Nat):Int) % 2=(m:Nat):=⟨(v+1) % 2,zO⟩
 have hx:=fin m hm
 have hm2:m<2:=zO
 clear fin
 refine Ct.enter func32 rfl ntmps32 zW (fun R=>?_)
 repeat' (first|(refine yAb ?_;first|refine xca cW fun _=>?_|refine xca cA fun _=>?_|refine xca (co _) fun _=>?_|refine xca (cu2 _) fun _=>?_|refine xca (cu1 _) fun _=>?_|refine xca csz fun _=>?_|refine xca cn fun pw=>?_|refine xca cs fun _=>?_)|(refine yAj ?_;first|refine yAa (yDm rfl xS hx) ?_|refine yAa (yAn rfl e12) ?_)|refine yAa (yAg rfl w3) ?_|refine yAa (yAg rfl w2) ?_|refine yAa (yAg rfl w1) ?_|refine yAa (yAd (r:=((v+1:Nat):Int)) rfl rfl zO zO) ?_|refine yAa (yAZ rfl rfl zO hm) ?_|refine yAa (yCc rfl hne) ?_|refine yAa (yAm rfl rfl q0) ?_|refine xst ?_|refine xsa ?_;intro _|refine xsb ?_ ?_<;>intro _<;>try omega|refine xsc ?_|refine xdr 3 yWP ?_|refine xdr 7 yWQ ?_|refine xdr 10 yWR ?_|refine xsd ?_ ?_|exact Rech.nil|exact xdn ()|fail)
end
theorem Old.zero:Old 0 (zs 256):=⟨zs_old1.len,zs_old1.tail⟩
theorem yZQ (stamp:Int) (at_:Nat):∀ (f:Nat) (D:Dsk) (i:Nat) (v:List UInt8),D.off=false→D.ok→v.length≤234*f→at_+i+yGx v.length≤D.n→
 ((yC0 at_ stamp f D i v).1=12→(yC0 at_ stamp f D i v).2.off=true)∧(yC0 at_ stamp f D i v).2.life=D.life:=by
 have hnil:∀ (f:Nat) (D:Dsk) (i:Nat),D.off=false→((yC0 at_ stamp f D i []).1=12→(yC0 at_ stamp f D i []).2.off=true)∧(yC0 at_ stamp f D i []).2.life=D.life:=by
  intro f D i ho
  rw [yIv]
  exact yZj ho
 intro f
 induction f with
 |zero=>
  intro D i v ho hk hv hn
  have:v=[]:=List.length_eq_zero_iff.1 zO
  subst this
  exact hnil 0 D i ho
 |succ f ih=>
  intro D i v ho hk hv hn
  by_cases h0:v=[]
  ·subst h0;exact hnil (f+1) D i ho
  have hp:=zLv.2 h0
  have hn':at_+i<D.n∧at_+(i+1)+yGx (v.drop 234).length≤D.n:=by
   rw [zLf]
   unfold yGx at hn ⊢
   omega
  have hS:=yAV stamp (v.take 234) (by rw [zLg];omega)
  obtain ⟨w1,w2,w3,w4,w5⟩:=yHH ho (at_+i) hn'.1 _ hS
  obtain ⟨x1,x2⟩:=yWu ho (at_+i) hn'.1 _ hS
  have hok:=Dsk.writeD_ok hk ((at_+i:Nat):Int) (yAx stamp (v.take 234))
  have hu:yC0 at_ stamp (f+1) D i v=if D.writeE ((at_+i:Nat):Int) (yAx stamp (v.take 234))≠0 then (D.writeE ((at_+i:Nat):Int) (yAx stamp (v.take 234)),D.writeD ((at_+i:Nat):Int) (yAx stamp (v.take 234)))
   else yC0 at_ stamp f (D.writeD ((at_+i:Nat):Int) (yAx stamp (v.take 234))) ((i+1:Nat):Int) (v.drop 234):=by
   show (if v=[] then _ else _)=_
   rw [if_neg h0]
   rfl
  rw [hu]
  clear hu
  rcases w1 with ⟨a,b⟩|a
  ·rw [if_neg (by rw [a];simp)]
   obtain ⟨r1,r2⟩:=ih (D.writeD ((at_+i:Nat):Int) (yAx stamp (v.take 234))) (i+1) (v.drop 234) b hok (by rw [zLf];omega) (by rw [w4];exact hn'.2)
   exact ⟨r1,by rw [r2,x2]⟩
  ·rw [if_pos (by rw [a];simp)]
   exact ⟨fun _=>x1 a,x2⟩
theorem yJN (D:Dsk) (kept:List Bool) (torn bytes:Int) (i:Nat):(D.crash kept torn bytes).sec i=cut (yBe D.img (ySE (done kept torn bytes) D.und 0)) (i*256) 256:=by
 unfold Dsk.sec
 show cut (yGi _ _ _ _ _) _ _=_
 rw [yQq]
theorem yGv {D:Dsk} (h:Still D) (kept:List Bool) (torn bytes:Int) (i:Nat):(D.crash kept torn bytes).sec i=D.sec i:=by
 unfold Dsk.sec
 rw [yN4 D h.und]
theorem yFE {D:Dsk} (h:Still D) (a n s:Nat) (v:List UInt8) (ha:a+n≤D.n) (hs:1≤s) (hv:v.length≤234*n) (hn:n≤65536) :
 (((yA7 D a n s v).1=0∧Still (yA7 D a n s v).2∧
  (∀ k,234*k<v.length→(yA7 D a n s v).2.sec (a+k)=yAx s ((v.drop (234*k)).take 234))∧∀ j,j<D.n→(j<a∨a+n≤j)→(yA7 D a n s v).2.sec j=D.sec j)∨
  ((yA7 D a n s v).1=12∧(yA7 D a n s v).2.off=true∧∀ kept torn bytes j,j<D.n→(j<a∨a+n≤j)→((yA7 D a n s v).2.crash kept torn bytes).sec j=D.sec j))∧
 (yA7 D a n s v).2.n=D.n∧(yA7 D a n s v).2.ok∧(yA7 D a n s v).2.life=D.life∧(yA7 D a n s v).2.und.length≤n:=by
 have hns:yGx v.length≤n:=by unfold yGx;omega
 have hlen:=h.ok.len
 have e1:yA7 D a n s v=yC0 ((a:Nat):Int) (s:Nat) v.length D ((0:Nat):Int) v:=by
  unfold yA7
  have hm:D.mayB a n=true:=by unfold Dsk.mayB;exact zY zO
  have hroom:yCb n=234*n:=by unfold yCb;omega
  rw [if_neg (by rw [hm];simp),if_neg zO,if_neg (by rw [hroom];omega),if_neg (by rw [h.on];simp)]
  rfl
 obtain ⟨w1,w2,w3,-⟩:=ySF (s:Nat) a v.length D 0 v h.on h.ok zO zO
 obtain ⟨x1,x2⟩:=yZQ (s:Nat) a v.length D 0 v h.on h.ok zO zO
 rw [← e1] at w1 w2 w3 x1 x2
 clear e1
 obtain ⟨r,hr⟩:∃ r,r=yA7 D a n s v:=⟨_,rfl⟩
 rw [← hr] at w1 w2 w3 x1 x2 ⊢
 clear hr
 simp only [h.und,List.nil_append,zLz] at w1
 have hin:=ySD (s:Nat) v.length a v
 have hpl:=yQu (s:Nat) v.length a v
 have hpk:∀ k,((v.drop (234*k)).take 234).length≤234:=fun k=>by rw [zLg];omega
 have hsl:∀ j,j<D.n→(D.sec j).length=256:=fun j hj=>yBq _ _ _ zO
 refine ⟨?_,w2,w3,x2,?_⟩
 ·rcases w1 with ⟨q1,q2,q3,q4⟩|⟨q1,q2,m,q3⟩
  ·left
   have himg:r.2.img=yBe D.img (ySE (fun _=>256) ((pcs (s:Nat) v.length a v).take (pcs (s:Nat) v.length a v).length) 0):=by
    rw [q4,zLi (Nat.le_refl _),yMI _ (fun _=>rfl) _ _ (fun x hx=>(hin x hx).2.2)]
   refine ⟨q1,⟨q2,q3,w3⟩,fun k hk=>?_,fun j hj hout=>?_⟩
   ·obtain ⟨d,a1,a2,a3⟩:=yPa (s:Nat) D.n (fun _=>256) (fun _=>Nat.le_refl _) v.length a (pcs (s:Nat) v.length a v).length 0 v D.img hlen zO k hk
    have hd:=a3 (fun _=>rfl) zO (Nat.le_refl _)
    have hjk:a+k<D.n:=zO
    show cut r.2.img _ _=_
    rw [himg,a2,hd]
    exact yJa _ _ (yAV _ _ (hpk k)) (hsl _ hjk)
   ·show cut r.2.img _ _=_
    rw [q4]
    refine yC8 D.n j _ _ hlen fun x hx=>?_
    obtain ⟨c1,c2,c3⟩:=hin x hx
    exact ⟨zO,zO,zO⟩
  ·right
   refine ⟨q1,x1 q1,fun kept torn bytes j hj hout=>?_⟩
   rw [yJN,q2,q3]
   refine yC8 D.n j _ _ hlen fun x hx=>?_
   obtain ⟨y,hy,b1,b2⟩:=yN9 _ _ _ _ hx
   obtain ⟨c1,c2,c3⟩:=hin y (List.mem_of_mem_take hy)
   exact ⟨zO,zO,zO⟩
 ·rcases w1 with ⟨_,_,q,_⟩|⟨_,_,m,q⟩
  ·rw [q];simp
  ·rw [q,zLg];omega
theorem yYt {D:Dsk} (h:D.ok) (a v:Int) (s:List UInt8):(yA6 D a v s).ok:=by
 unfold yA6 yCV
 split
 ·exact h
 split
 ·exact h
 split
 ·exact Dsk.writeD_ok h _ _
 ·exact Dsk.flushD_ok (Dsk.writeD_ok h _ _)
theorem yHo {D:Dsk} (h:Still D) (a v:Nat) (s:List UInt8) (ha:a+2≤D.n) (hv:1≤v) (hv2:v≤1099511627776) (hs:s.length≤234) :
 ((yBu D a v s=0∧Still (yA6 D a v s)∧(yA6 D a v s).sec (a+v % 2)=yAx v s∧∀ j,j<D.n→j≠a+v % 2→(yA6 D a v s).sec j=D.sec j)∨
   (yBu D a v s=12∧(yA6 D a v s).off=true∧∀ kept torn bytes,(∃ d,d≤256∧((yA6 D a v s).crash kept torn bytes).sec (a+v % 2)=yE2 (yAx v s) (D.sec (a+v % 2)) d)∧∀ j,j<D.n→j≠a+v % 2→((yA6 D a v s).crash kept torn bytes).sec j=D.sec j))∧
 (yA6 D a v s).n=D.n∧(yA6 D a v s).ok∧(yA6 D a v s).life=D.life∧(yA6 D a v s).und.length≤1:=by
 obtain ⟨t1,t2,t3⟩:=yQp h a v s ha hv hv2 hs
 have hok:=yYt h.ok a v s
 have hlen:=h.ok.len
 have hS:=yAV (v:Int) s hs
 have hb:(a+v % 2)*256+256≤D.img.length:=zO
 have cutoff:∀ D':Dsk,D'.img=D.img→D'.und=[(a+v % 2,yAx v s)]→∀ kept torn bytes,(∃ d,d≤256∧(D'.crash kept torn bytes).sec (a+v % 2)=yE2 (yAx v s) (D.sec (a+v % 2)) d)∧∀ j,j<D.n→j≠a+v % 2→(D'.crash kept torn bytes).sec j=D.sec j:=by
  intro D' e1 e2 kept torn bytes
  have hd:=yVa kept torn bytes 0
  refine ⟨⟨done kept torn bytes 0,hd,?_⟩,fun j hj hne=>?_⟩
  ·rw [yJN,e1,e2]
   show cut (lay D.img ((a+v % 2)*256) ((yAx v s).take (done kept torn bytes 0))) _ _=_
   exact yFm _ _ _ _ hS hd zO
  ·rw [yJN,e1,e2]
   refine yC8 D.n j _ _ hlen fun x hx=>?_
   obtain ⟨y,hy,b1,b2⟩:=yN9 _ _ _ _ hx
   rw [List.mem_singleton] at hy
   subst hy
   dsimp only at b1 b2
   exact ⟨zO,zO,zO⟩
 by_cases h0:D.armed=0
 ·obtain ⟨e,hD⟩:=t1 h0
  rw [hD] at hok
  rw [e,hD]
  exact ⟨.inr ⟨rfl,rfl,cutoff _ rfl rfl⟩,rfl,hok,rfl,by simp⟩
 by_cases h1:D.armed=1
 ·obtain ⟨e,hD⟩:=t2 h1
  rw [hD] at hok
  rw [e,hD]
  exact ⟨.inr ⟨rfl,rfl,cutoff _ rfl rfl⟩,rfl,hok,rfl,by simp⟩
 obtain ⟨e,r,hD⟩:=t3 h0 h1
 rw [hD] at hok
 rw [e,hD]
 refine ⟨.inl ⟨rfl,⟨h.on,h.und,hok⟩,?_,fun j hj hne=>?_⟩,rfl,hok,rfl,by show D.und.length≤1;rw [h.und];simp⟩
 ·show cut (lay D.img ((a+v % 2)*256) (yAx v s)) _ _=_
  have:=yFm D.img (yAx v s) ((a+v % 2)*256) 256 hS (Nat.le_refl _) hb
  rw [zLi zO] at this
  rw [this]
  exact yJa _ _ hS (yBq _ _ _ hb)
 ·have e2:lay D.img ((a+v % 2)*256) (yAx v s)=yBe D.img [(a+v % 2,yAx v s)]:=rfl
  show cut (lay D.img ((a+v % 2)*256) (yAx v s)) _ _=_
  rw [e2]
  refine yC8 D.n j _ _ hlen fun x hx=>?_
  rw [List.mem_singleton] at hx
  subst hx
  exact ⟨fun q=>hne q.symm,by dsimp only;omega,by dsimp only;omega⟩
def yWT (D:Dsk) (n:Nat) (r:Rows):Nat:=if (yA7 D (yAt n 1) (yAu n) ((1:Nat):Int) (yAh r)).1≠0 then (yA7 D (yAt n 1) (yAu n) ((1:Nat):Int) (yAh r)).1 else yBu (yCl D n 1 r) 0 ((1:Nat):Int) (yBd n (yAh r).length)
def yWU (D:Dsk) (n:Nat) (r:Rows):Dsk:=if (yA7 D (yAt n 1) (yAu n) ((1:Nat):Int) (yAh r)).1≠0 then yCl D n 1 r else yDU D n 1 r
structure Bare (n:Nat) (D:Dsk):Prop where
 still:Still D
 nn:D.n=n
 slot:∃ l,Holds D 0 0 l
 old:Old 0 (D.sec 1)
 log:∀ j,j<yA2 n→yCt ((D.sec (yAK n+j)).drop 248) 8<(yAW 0 j:Nat)
theorem Bare.blank {n:Nat} (h1:64≤n) (h2:n≤65536) (k:Int) (hk:k≤9223372036854775807):Bare n ((Dsk.blank n).arm k):=by
 have hr:=Ready.blank h1 h2
 obtain ⟨l,hl⟩:=hr.slot
 refine ⟨⟨rfl,rfl,Dsk.arm_ok hr.rest.ok k hk⟩,rfl,⟨l,hl.keep fun _ _=>rfl⟩,?_,hr.log⟩
 have e:((Dsk.blank n).arm k).sec 1=zs 256:=yG1 n 1 zO
 rw [e]
 exact Old.zero
theorem yV3 {D D':Dsk} {at_ n:Int} {ver:Nat} (h:∀ i,yCG D at_ n ver i=yCG D' at_ n ver i) (i:Nat) (size:Int):∀ (f k:Nat) (out:List UInt8),yDX D at_ n ver i size f k out=yDX D' at_ n ver i size f k out:=by
 intro f
 induction f with
 |zero=>intro k out;rfl
 |succ f ih=>
  intro k out
  unfold yDX
  rw [h]
  split
  ·rfl
  ·simp only [ih]
theorem yYu {D D':Dsk} {at_ n:Int} {ver:Nat} (h:∀ i,yCG D at_ n ver i=yCG D' at_ n ver i) (i:Nat):yEF D at_ n ver i=yEF D' at_ n ver i:=by
 unfold yEF
 rw [h]
 simp only [yV3 h]
theorem yOC {D D':Dsk} {at_ n:Int} {ver:Nat} (h:∀ i,yCG D at_ n ver i=yCG D' at_ n ver i):∀ (f i:Nat) (acc:List (List UInt8)),yEY D at_ n ver f i acc=yEY D' at_ n ver f i acc:=by
 intro f
 induction f with
 |zero=>intro i acc;rfl
 |succ f ih=>
  intro i acc
  unfold yEY
  rw [yYu h]
  split
  ·rfl
  ·rw [ih]
theorem yOD {D D':Dsk} (h:Still D) (h':Still D') (hn:D'.n=D.n) (at_ m ver:Nat) (hat:at_+m≤D.n) (hs:∀ j,j<m→D'.sec (at_+j)=D.sec (at_+j)) (i:Nat):yCG D (at_:Nat) (m:Nat) ver i=yCG D' (at_:Nat) (m:Nat) ver i:=by
 unfold yCG
 by_cases hi:((m:Nat):Int)≤(i:Int)
 ·rw [if_pos hi,if_pos hi]
 rw [if_neg hi,if_neg hi]
 have e:((at_:Nat):Int)+(i:Nat)=((at_+i:Nat):Int):=zO
 have h1:D.has ((at_+i:Nat):Int)=true:=by unfold Dsk.has;exact zY zO
 have h2:D'.has ((at_+i:Nat):Int)=true:=by unfold Dsk.has;exact zY zO
 have r1:D.readE ((at_+i:Nat):Int)=0:=by unfold Dsk.readE;rw [h.on,h1];rfl
 have r2:D'.readE ((at_+i:Nat):Int)=0:=by unfold Dsk.readE;rw [h'.on,h2];rfl
 have s1:D.readS ((at_+i:Nat):Int)=D.sec (at_+i):=by unfold Dsk.readS Dsk.rd;rw [h.on,h1,h.und];rfl
 have s2:D'.readS ((at_+i:Nat):Int)=D'.sec (at_+i):=by unfold Dsk.readS Dsk.rd;rw [h'.on,h2,h'.und];rfl
 rw [e,r1,r2,s1,s2,hs i zO]
theorem yV4 {raw:List UInt8} {v:Nat} (hv:1≤v) (h:yCt (raw.drop 248) 8≤(v:Int)):yAM raw (((v+1) % 2:Nat):Int)<(v:Int):=by
 unfold yAM yCA
 split
 ·simp;omega
 split
 ·simp;omega
 split
 ·simp;omega
 split
 ·simp;omega
 split
 ·simp;omega
 ·rename_i h2 h3 h4 h5
  cases yBU (yCt raw 8) raw with
  |none=>simp;omega
  |some p=>
   show yCt raw 8<(v:Int)
   have:yCt raw 8=yCt (raw.drop 248) 8:=Classical.byContradiction fun q=>h2 q
   have h6:yCt raw 8 % 2=(((v+1) % 2:Nat):Int):=Classical.byContradiction fun q=>h5 q
   omega
theorem yTX {s t d:Nat} {p old:List UInt8} (hs:s<2 ^ 64) (ht:t<s) (hp:p.length≤234) (ho:old.length=256) (hd:d≤256) (htail:yCt (old.drop 248) 8≤(t:Int)) :
 yE2 (yAx s p) old d=yAx s p∨yCt ((yE2 (yAx s p) old d).drop 248) 8<(s:Int):=by
 have hl:=yAV (s:Int) p hp
 have hl2:=yN7 hl ho hd
 obtain ⟨v,hv,hg,hb⟩:=yEt (old.drop 248) 8 zO
 rw [hg] at htail
 obtain ⟨w,hw,hwb⟩:=yVe s v (d-248) zO
 have hT:∀ i,i<8→((yE2 (yAx s p) old d).drop 248).getD i 0=yCs (w:Int) i:=by
  intro i hi
  rw [yDP,yO9 hl hd,hwb i hi]
  by_cases h:248+i<d
  ·rw [if_pos h,if_pos zO,yI1 s p hp _ zO zO,Nat.add_sub_cancel_left]
  ·rw [if_neg h,if_neg zO,← hb i hi,yDP]
 have hG:yCt ((yE2 (yAx s p) old d).drop 248) 8=(w:Int):=by
  rw [yHF _ w 8 zO hT,Nat.mod_eq_of_lt zO]
 by_cases hws:w=s
 ·left
  subst hws
  have hdd:248<d:=by
   rcases Nat.lt_or_ge 248 d with h|h
   ·exact h
   ·exfalso
    have h1:=yHF (old.drop 248) w 8 zO (fun i hi=>by rw [hb i hi,hwb i hi,if_neg zO])
    rw [hg,Nat.mod_eq_of_lt zO] at h1
    omega
  refine yU9 _ _ (by rw [hl,hl2]) fun i hi=>?_
  rw [hl2] at hi
  by_cases h:i<d
  ·rw [yO9 hl hd,if_pos h]
  ·have h1:=hT (i-248) zO
   rw [yDP,show 248+(i-248)=i by omega] at h1
   rw [h1,yI1 w p hp i zO hi]
 ·right
  rw [hG]
  omega
structure RdO (n:Nat) (r:Rows) (recs:List (List UInt8)) (v:Nat) (D:Dsk):Prop where
 still:Still D
 nn:D.n=n
 here:D.sec (v % 2)=yAx v (yBd n (yAh r).length)
 other:yCt ((D.sec ((v+1) % 2)).drop 248) 8≤(v:Int)
 area:∀ k,234*k<(yAh r).length→D.sec (yAt n v+k)=yAx v (((yAh r).drop (234*k)).take 234)
 rp:yEY D (yAK n:Nat) (yA2 n:Nat) v (((yA2 n:Nat):Int).toNat+1) 0 []=recs
 tails:∀ j,j<yA2 n→yCt ((D.sec (yAK n+j)).drop 248) 8≤(yAW v j:Nat)
theorem RdO.holds {n v:Nat} {r:Rows} {recs:List (List UInt8)} {D:Dsk} (h:RdO n r recs v D) (hv:1≤v∧v≤1099511627776) (hh:(yBd n (yAh r).length).length≤234):Holds D 0 v (yBd n (yAh r).length):=by
 refine ⟨fun _=>?_,?_,fun q=>by omega⟩
 ·rw [zLq,h.here,show ((v % 2:Nat):Int)=(v:Int) % 2 by omega]
  exact yKf v _ hh hv.1 hv.2
 ·rw [zLq,if_neg zO]
  exact yV4 hv.1 h.other
theorem RdO.same {n v:Nat} {r:Rows} {recs:List (List UInt8)} {D D':Dsk} (h:RdO n r recs v D) (h1:64≤n) (hD:Still D') (hn:D'.n=n) (h0:D'.sec (v % 2)=D.sec (v % 2)) (hoth:yCt ((D'.sec ((v+1) % 2)).drop 248) 8≤(v:Int)) (hr:(yAh r).length≤234*yAu n)
 (hs:∀ j,j<n→2≤j→(j<yAt n (v+1)∨yAt n (v+1)+yAu n≤j)→D'.sec j=D.sec j):RdO n r recs v D':=by
 obtain ⟨f1,f2,f3,f4⟩:=yAO h1 v
 obtain ⟨g1,g2,g3,g4⟩:=yAO h1 (v+1)
 have hnn:=h.nn
 have hap:yAt n v+yAu n≤yAt n (v+1)∨yAt n (v+1)+yAu n≤yAt n v:=by
  unfold yAt
  rcases (show v % 2=0∨v % 2=1 by omega) with q|q
  ·rw [if_pos q,if_neg zO];omega
  ·rw [if_neg zO,if_pos zO];omega
 refine ⟨hD,hn,by rw [h0];exact h.here,hoth,fun k hk=>?_,?_,fun j hj=>?_⟩
 ·rw [hs _ zO zO zO]
  exact h.area k hk
 ·rw [← yOC (yOD h.still hD (by rw [hn,hnn]) (yAK n) (yA2 n) v zO fun j hj=>hs _ zO zO (.inr zO))]
  exact h.rp
 ·rw [hs _ zO zO (.inr zO)]
  exact h.tails j hj
def yCk (D:Dsk) (n v:Nat) (r:Rows):Nat:=if (yA7 D (yAt n (v+1)) (yAu n) ((v+1:Nat):Int) (yAh r)).1≠0 then (yA7 D (yAt n (v+1)) (yAu n) ((v+1:Nat):Int) (yAh r)).1 else yBu (yCl D n (v+1) r) 0 ((v+1:Nat):Int) (yBd n (yAh r).length)
def yBx (D:Dsk) (n v:Nat) (r:Rows):Dsk:=if (yA7 D (yAt n (v+1)) (yAu n) ((v+1:Nat):Int) (yAh r)).1≠0 then yCl D n (v+1) r else yDU D n (v+1) r
theorem RdO.log0 {n v:Nat} {D:Dsk} (h1:64≤n) (hD:Still D) (hn:D.n=n) (hv:1≤v∧v≤1099511627776) (h2:n≤65536) (ht:∀ j,j<yA2 n→yCt ((D.sec (yAK n+j)).drop 248) 8<(yAW v j:Nat)):yEY D (yAK n:Nat) (yA2 n:Nat) v (((yA2 n:Nat):Int).toNat+1) 0 []=[]:=by
 obtain ⟨f1,f2,f3,f4⟩:=yAO h1 v
 have hlN:1≤yA2 n:=by unfold yA2 yAu;omega
 have hp:yCG D (yAK n:Nat) (yA2 n:Nat) v 0=none:=by
  unfold yCG
  rw [if_neg zO]
  have h1:D.has ((yAK n+0:Nat):Int)=true:=by unfold Dsk.has;exact zY zO
  have e:((yAK n:Nat):Int)+((0:Nat):Int)=((yAK n+0:Nat):Int):=zO
  have r1:D.readE ((yAK n+0:Nat):Int)=0:=by unfold Dsk.readE;rw [hD.on,h1];rfl
  have s1:D.readS ((yAK n+0:Nat):Int)=D.sec (yAK n+0):=by unfold Dsk.readS Dsk.rd;rw [hD.on,h1,hD.und];rfl
  rw [e,r1,if_neg zW,s1]
  exact yKl (yLx hv.2 zO) (ht 0 zO)
 have hr:=yG5 (i:=0) hp
 show (match yEF D (yAK n:Nat) (yA2 n:Nat) v 0 with|none=>[]|some (s,u)=>yEY D (yAK n:Nat) (yA2 n:Nat) v ((yA2 n:Nat):Int).toNat (0+u.toNat) ([]++[s]))=[]
 rw [hr]
theorem RdO.fold {n v:Nat} {r0:Rows} {recs:List (List UInt8)} {D:Dsk} (h:RdO n r0 recs v D) (h1:64≤n) (h2:n≤65536) (hv:1≤v∧v+1≤1099511627776) (hr0:(yAh r0).length≤234*yAu n) (r:Rows) (hr:(yAh r).length≤234*yAu n) :
 ((yCk D n v r=0∧RdO n r [] (v+1) (yBx D n v r)∧∀ j,j<yA2 n→yCt (((yBx D n v r).sec (yAK n+j)).drop 248) 8<(yAW (v+1) j:Nat))∨(yCk D n v r=12∧(yBx D n v r).off=true))∧
 (yBx D n v r).n=n∧(yBx D n v r).ok∧(yBx D n v r).life=D.life∧(yBx D n v r).und.length≤yAu n∧
 ∀ kept torn bytes,RdO n r [] (v+1) ((yBx D n v r).crash kept torn bytes)∨(yCk D n v r=12∧RdO n r0 recs v ((yBx D n v r).crash kept torn bytes)):=by
 obtain ⟨f1,f2,f3,f4⟩:=yAO h1 (v+1)
 have hn:=h.nn
 have hlA:yAu n≤65536:=by unfold yAu;omega
 have hm2:(v+1) % 2<2:=Nat.mod_lt _ zO
 have hm0:v % 2<2:=Nat.mod_lt _ zO
 have hm1:v % 2≠(v+1) % 2:=zO
 have hvv:(v+1+1) % 2=v % 2:=zO
 obtain ⟨a1,a2,a3,a4,a5⟩:=yFE h.still (yAt n (v+1)) (yAu n) (v+1) (yAh r) zO zO hr hlA
 have hh:(yBd n (yAh r).length).length≤234:=Nat.le_trans (yB3 _ _) zO
 have hh0:(yBd n (yAh r0).length).length≤234:=Nat.le_trans (yB3 _ _) zO
 have hst:∀ j,((yAW v j:Nat):Int)<((yAW (v+1) j:Nat):Int):=fun j=>by unfold yAW;omega
 have crst:∀ {D':Dsk},D'.ok→∀ kept torn bytes,Still (D'.crash kept torn bytes):=fun ok' kept torn bytes=>⟨rfl,rfl,Dsk.crash_ok ok' kept torn bytes⟩
 rcases a1 with ⟨e0,s0,c0,o0⟩|⟨e0,o1,c1⟩
 ·have eE:yCk D n v r=yBu (yCl D n (v+1) r) 0 ((v+1:Nat):Int) (yBd n (yAh r).length):=by unfold yCk;rw [if_neg (by rw [e0];simp)]
  have eW:yBx D n v r=yDU D n (v+1) r:=by unfold yBx;rw [if_neg (by rw [e0];simp)]
  have hA:(yA7 D (yAt n (v+1)) (yAu n) ((v+1:Nat):Int) (yAh r)).2=yCl D n (v+1) r:=rfl
  rw [hA] at s0 c0 o0 a2 a3 a4 a5
  rw [eE,eW]
  obtain ⟨b1,b2,b3,b4,b5⟩:=yHo (D:=yCl D n (v+1) r) s0 0 (v+1) (yBd n (yAh r).length) zO zO hv.2 hh
  have hD:yA6 (yCl D n (v+1) r) ((0:Nat):Int) ((v+1:Nat):Int) (yBd n (yAh r).length)=yDU D n (v+1) r:=rfl
  rw [hD] at b1 b2 b3 b4 b5
  rw [zLq] at b1
  have hA0:∀ j,j<2→(yCl D n (v+1) r).sec j=D.sec j:=fun j hj=>o0 j zO (.inl zO)
  have good:∀ D':Dsk,Still D'→D'.n=n→D'.sec ((v+1) % 2)=yAx ((v+1:Nat):Int) (yBd n (yAh r).length)→(∀ j,j<n→j≠(v+1) % 2→D'.sec j=(yCl D n (v+1) r).sec j)→RdO n r [] (v+1) D'∧∀ j,j<yA2 n→yCt ((D'.sec (yAK n+j)).drop 248) 8<(yAW (v+1) j:Nat):=by
   intro D' st' n' s1 sj
   have ht:∀ j,j<yA2 n→yCt ((D'.sec (yAK n+j)).drop 248) 8<(yAW (v+1) j:Nat):=fun j hj=>by
    rw [sj _ zO zO,o0 _ zO (.inr zO)]
    have:=h.tails j hj
    have:=hst j
    omega
   refine ⟨⟨st',n',s1,?_,fun k hk=>?_,RdO.log0 h1 st' n' ⟨zO,hv.2⟩ h2 ht,fun j hj=>Int.le_of_lt (ht j hj)⟩,ht⟩
   ·rw [hvv,sj _ zO hm1,hA0 _ hm0,h.here,yI2 v _ hh0 zO]
    omega
   ·rw [sj _ zO zO]
    exact c0 k hk
  rcases b1 with ⟨g0,g1,g2,g3⟩|⟨g0,g1,g2⟩
  ·have gn:(yDU D n (v+1) r).n=n:=by rw [b2,a2,hn]
   have gd:=good _ g1 gn g2 (fun j hj hne=>g3 j zO hne)
   refine ⟨.inl ⟨g0,gd.1,gd.2⟩,gn,b3,by rw [b4,a4],zO,fun kept torn bytes=>.inl ?_⟩
   refine (good _ (crst b3 _ _ _) (by show (yDU D n (v+1) r).n=n;exact gn) ?_ (fun j hj hne=>?_)).1
   ·rw [yGv g1];exact g2
   ·rw [yGv g1];exact g3 j zO hne
  ·refine ⟨.inr ⟨g0,g1⟩,by rw [b2,a2,hn],b3,by rw [b4,a4],zO,fun kept torn bytes=>?_⟩
   obtain ⟨⟨d,hd,g3⟩,g4⟩:=g2 kept torn bytes
   have hn':((yDU D n (v+1) r).crash kept torn bytes).n=n:=by show (yDU D n (v+1) r).n=n;rw [b2,a2,hn]
   rw [hA0 _ hm2] at g3
   have hol:(D.sec ((v+1) % 2)).length=256:=yBq _ _ _ (by have:=h.still.ok.len;omega)
   rcases yTX (s:=v+1) (t:=v) zO zO hh hol hd h.other with t|t
   ·left
    exact (good _ (crst b3 _ _ _) hn' (by rw [g3,t]) (fun j hj hne=>g4 j zO hne)).1
   ·right
    refine ⟨g0,h.same h1 (crst b3 _ _ _) hn' ?_ ?_ hr0 (fun j hj h2j hout=>?_)⟩
    ·rw [g4 _ zO hm1,hA0 _ hm0]
    ·rw [g3];omega
    ·rw [g4 _ zO zO,o0 _ zO hout]
 ·have eE:yCk D n v r=12:=by unfold yCk;rw [if_pos (by rw [e0];simp),e0]
  have eW:yBx D n v r=yCl D n (v+1) r:=by unfold yBx;rw [if_pos (by rw [e0];simp)]
  have hA:(yA7 D (yAt n (v+1)) (yAu n) ((v+1:Nat):Int) (yAh r)).2=yCl D n (v+1) r:=rfl
  rw [hA] at o1 c1 a2 a3 a4 a5
  rw [eE,eW]
  refine ⟨.inr ⟨rfl,o1⟩,by rw [a2,hn],a3,a4,a5,fun kept torn bytes=>.inr ⟨rfl,h.same h1 (crst a3 _ _ _) (by show (yCl D n (v+1) r).n=n;rw [a2,hn]) (c1 _ _ _ _ zO (.inl zO)) ?_ hr0 (fun j hj _ hout=>c1 _ _ _ _ zO hout)⟩⟩
  rw [c1 _ _ _ _ zO (.inl zO)]
  exact h.other
theorem RdO.arm {n v:Nat} {r:Rows} {recs:List (List UInt8)} {D:Dsk} (h:RdO n r recs v D) (h1:64≤n) (k:Int) (hk:k≤9223372036854775807):RdO n r recs v (D.arm k):=by
 obtain ⟨f1,f2,f3,f4⟩:=yAO h1 v
 have hn:=h.nn
 have st:Still (D.arm k):=⟨h.still.on,h.still.und,Dsk.arm_ok h.still.ok k hk⟩
 refine ⟨st,h.nn,h.here,h.other,h.area,?_,h.tails⟩
 rw [← yOC (yOD h.still st rfl (yAK n) (yA2 n) v zO fun j _=>rfl)]
 exact h.rp
section
variable {P:Program} {W:World} {n:Nat} {E:Env} {H R:List SP}
theorem KJ.liftDone2R {f1 f2:FuncId} [FnIs P f1] [FnIs P f2] {cap1 a1 cap2 a2:Array Value} {v1 v2:List Value} {H1 H1' H2 R1 R2:List SP} (hv1:a1++cap1=v1.toArray) (hv2:a2++cap2=v2.toArray) (c1:CtD P W f1 v1 .returning H1 (fun _:Unit=>H1')) (c2:CtD P W f2 v2 .returning H2 (fun _:Unit=>H2)) (hp1:Pick H1 H R1) (hp2:Pick H2 H R2)
 {X:Type} {r:X→Value} {Hp:X→List SP} {fn:Func} {rs:List ResultVar} {vs:List Value} {ex:Exit} (hex:ex=.ret∨ex=.normal) (hr:fn.results=rs.toArray) (hv:Rvs P E (H1'++R1) rs vs) (c:X) (hc:yH2 vs=r c) (hE:∀ g,yAA (H1'++R1) g→yAA (Hp c++R) g) :
 KJ W n (yCz (fun l=>⟨.fn (.func f2) cap2,a2⟩::⟨.fn (.func f1) cap1,a1⟩::l) (.ex (.top (bodyPostM Fence.wide 0 P fn (yPY W r Hp R))) ex)) E H:=by
 refine KJ.liftTop fun a w p s=>?_
 have fin:=yD1 (W:=W) (P:=P) (fn:=fn) (tmps:=a.tmps) (R:=R) c hc hE (fun w s=>hv.results_run hr p s) a.defers
 have st1:∀ w,St W (H++dm a.defers) w→LeavesInM Fence.wide 0 P fn a.tmps (yPY W r Hp R) (⟨.fn (.func f1) cap1,a1⟩::a.defers) .returning w:=fun w s=>
  yHg c1 zW rfl (by rw [← hv1];exact yKv cap1 a1 w) ((s.perm (hp1.perm.append_right _)).perm (by rw [zLd])) (fun x w' s'=>fin w' (s'.perm (by rw [zLd])))
 have st2:LeavesInM Fence.wide 0 P fn a.tmps (yPY W r Hp R) (⟨.fn (.func f2) cap2,a2⟩::⟨.fn (.func f1) cap1,a1⟩::a.defers) .returning w:=
  yHg c2 zW rfl (by rw [← hv2];exact yKv cap2 a2 w) ((s.perm (hp2.perm.append_right _)).perm (by rw [zLd])) (fun x w' s'=>st1 w' (s'.perm ((show (H2++(R2++dm a.defers)).Perm ((H2++R2)++dm a.defers) by rw [zLd]).trans (hp2.perm.symm.append_right _))))
 rcases hex with rfl|rfl
 ·exact st2
 ·exact st2
end
section
variable {W:World} {F:Nat→Addr} {q s d n g:Nat} {D:Dsk} {r:Rows}
theorem yQ8 (ge gs x e:Nat) (he:e≠0):CtD prog W 40 [zPp ge,zPp gs] .returning [yAi ge [yAr F e] 26,yAi gs [zPp x] 38] (fun _:Unit=>[yAi ge [yAr F e] 26,yAi gs [.pointer none] 38]):=by
 have hne:=yIs (F:=F) he
 refine CtD.enter func40 rfl ntmps40 zW (fun R c₀ cs hu=>?_)
 refine yJv ?_
 repeat' (first|refine KJ.liftStp (by constructor) ?_|refine KJ.liftCondT rfl ?_|refine KJ.liftCondF rfl ?_|refine KJ.liftOper ?_|refine yAa (yCc rfl hne) ?_|refine xst ?_|refine xsa ?_;intro _|refine xsb ?_ ?_<;>intro _<;>try omega|refine xsc ?_|fail)
 all_goals exact yLI () hu (by first|exact Or.inl rfl|exact Or.inr rfl) rfl (xN)
theorem yTY (hE:ErrsOn L16 W F) (hE8:ErrsOn L8 W F) (hN:NibAt W) (h1:64≤n) (h2:n≤65536) (hr:RisR r) (hsn:(yAh r).length≤234*yAu n) (v:Nat) (hv:1≤v∧v+1≤1099511627776) (hR:Still D) (hn:D.n=n) (hG:yA9 D 0=0∧yBC D 0=v∧yBt D 0=yBd n (yAh r).length∧yBH D (yAt n v) (yAu n) v (yAh r).length=(yAh r,0))
 (recs:List (List UInt8)) (g0:yEY D (yAK n:Nat) (yA2 n:Nat) v ((((yA2 n:Nat):Int).toNat)+1) 0 []=recs) (hdec:∀ x ∈ recs,(yAE x).2=0∧x.length≤4398046511104) (hrl2:∀ i x,recs[i]? = some x→(lgR r recs i).length+(yAE x).1.length≤144115188075855872) (hcn:recs.length≤4611686018427387904) {D2:Dsk} (rr:Rows) (hrr:lgR r recs recs.length=rr) (hfin:(yAh rr).length≤234*yAu n)
 (hfo:∀ (s q:Nat) (N:List Nd) (a:Option Addr) (b:Int),TbOk N a rr→Ct prog W 32 [zPp s] [stP s d q n (v:Nat) none D.life false,DiskP d D,tbP q a b,arP N] (fun _:Nat=>.nilIface) (fun g=>[stP s d q n ((v+1:Nat):Int) (some ⟨g,0,none⟩) D.life false,DiskP d D2,tbP q a b,arP N,yWz g d n (v+1) D2.life])) :
 Ct prog W 18 [zPp d] [DiskP d D] (fun x:Nat × (Nat × TbQ [] rr) × Nat=>.tuple #[.pointer (some ⟨x.1,0,none⟩),.nilIface])
  (fun x=>[stP x.1 d x.2.1.1 n ((v+1:Nat):Int) (some ⟨x.2.2,0,none⟩) D.life false,DiskP d (D2),tbP x.2.1.1 x.2.1.2.1.2.1 x.2.1.2.1.2.2,arP x.2.1.2.1.1,yWz x.2.2 d n (v+1) D2.life]):=by
 have hA:=yA8 (n:=n) zO
 obtain ⟨f1,f2,f3,f4⟩:=yAO h1 0
 have ho:=hR.on
 have hu:=hR.und
 have csz:CtU prog W 25 [zPp d] [DiskP d D] (.int .i64 (n:Nat)) [DiskP d D]:=by
  have:=yBs (W:=W) (p:=d) (D:=D)
  rw [hn] at this
  exact this
 have cof:CtU prog W 26 [zPp d] [DiskP d D] (.bool false) [DiskP d D]:=by
  have:=yD5 (W:=W) (p:=d) (D:=D)
  rw [ho] at this
  exact this
 have cov:=yFw (W:=W) (d:=d) (D:=D) h1 zO hn
 have clo:=fun s q=>yM1 (W:=W) (s:=s) (d:=d) (q:=q) (D:=D) hE hE8 hN h1 h2 hr hsn v ⟨hv.1,zO⟩ D.life hn ho hG recs g0 hdec hrl2 hcn (by rw [hrr];exact hfin)
 rw [hrr] at clo
 have cfo:=hfo
 have q1:decide ((n:Int)<64)=false:=zZ zO
 clear hG hfo
 refine Ct.enter func18 rfl ntmps18 zW (fun R=>?_)
 refine KJ.lift0 ?_
 repeat' (first|refine KJ.liftDeferF rfl (Evs.cons (v:=(zPp _)) rfl Evs.nil) ?_|refine KJ.liftDeferV rfl rfl xE ?_|refine KJ.liftStp (by constructor) ?_|refine KJ.liftCondT rfl ?_|refine KJ.liftCondF rfl ?_|refine KJ.liftOper ?_|(refine yAs ?_;first|refine yAq (d:=3) rfl (fun ge=>?_)|refine yAq (d:=2) rfl (fun gs=>?_))|(refine yAb ?_;first|refine xca (cfo _ _ _ _ _ hT) fun gj=>?_|refine xca (clo _ _) fun y=>?_;obtain ⟨q',⟨⟨N,a,b⟩,gN,hT⟩⟩:=y;dsimp only at gN hT ⊢|refine xca cov fun x=>?_;obtain ⟨s,q⟩:=x|refine xca cof fun _=>?_|refine xca csz fun _=>?_)|refine yCQ ?_;refine yAa (yCN rfl rfl) ?_|refine yAa (yAc rfl rfl q1) ?_|refine xst ?_|refine xsa ?_;intro _|refine xsb ?_ ?_<;>intro _<;>try omega|refine xsc ?_|refine xdr 2 yPH ?_|refine KJ.liftDraws (id:=2) yPH zK zK ?_|refine xdr 4 yPH ?_|refine KJ.liftDraws (id:=4) yPH zK zK ?_|refine xdr 9 yWS ?_|refine KJ.liftDraws (id:=9) yWS zK zK ?_|refine xsd ?_ ?_|exact Rech.nil|fail)
 all_goals exact KJ.liftDone2 (v1:=[zPp ge,zPp gs]) (v2:=[zPp ge]) rfl rfl (yPs ge gs) (yJw ge) xP xP (.inl rfl) rfl (Rvs.cell rfl inferInstance xS rfl (Rvs.cell rfl inferInstance xS rfl Rvs.nil)) (s,(q',⟨(N,a,b),gN,hT⟩),gj) (by rfl) (xN)
end
structure RcOk (rc:List UInt8):Prop where
 dec:(yAE rc).2=0
 len:rc.length≤14040
 few:(yAE rc).1.length≤14040
structure Comes (n:Nat) (r0:Rows) (recs:List (List UInt8)) (r:Rows):Prop where
 ris0:RisR r0
 room0:(yAh r0).length≤234*yAu n
 ok:∀ x ∈ recs,RcOk x
 few:recs.length≤100
 is_:lgR r0 recs recs.length=r
 ris:RisR r
 room:(yAh r).length≤234*yAu n
theorem Comes.nil {n:Nat} {r:Rows} (h:RisR r) (hr:(yAh r).length≤234*yAu n):Comes n r [] r:=⟨h,hr,fun _ hx=>(by cases hx),zLA _,rfl,h,hr⟩
section
variable {W:World} {F:Nat→Addr} {N:List Nd} {a:Option Addr} {r:Rows} {q s d n:Nat} {b:Int} {D:Dsk}
theorem yTZ (hE8:ErrsOn L8 W F) (hN:NibAt W) (h1:64≤n) (h2:n≤65536) (life:Int) (hT:TbOk N a r) (h:Still D) (hn:D.n=n) (hr:(yAh r).length≤234*yAu n) :
 CtU prog W 32 [zPp s] [stP s d q n (0:Nat) none life false,DiskP d D,tbP q a b,arP N] (yAr F (yWT D n r)) [DiskP d (yWU D n r)]:=by
 obtain ⟨f1,f2,f3,f4⟩:=yAO h1 1
 have hlA:yAu n≤65536:=by unfold yAu;omega
 obtain ⟨a1,a2,a3,a4,a5⟩:=yFE h (yAt n 1) (yAu n) 1 (yAh r) zO (Nat.le_refl _) hr hlA
 have hh:(yBd n (yAh r).length).length≤234:=Nat.le_trans (yB3 _ _) zO
 have hul:D.und.length+65536<1073741823:=by rw [h.und];simp
 rcases a1 with ⟨e0,s0,c0,o0⟩|⟨e0,o1,c1⟩
 ·have eE:yWT D n r=yBu (yCl D n 1 r) 0 ((1:Nat):Int) (yBd n (yAh r).length):=by unfold yWT;rw [if_neg (by rw [e0];simp)]
  have eW:yWU D n r=yDU D n 1 r:=by unfold yWU;rw [if_neg (by rw [e0];simp)]
  have hA:(yA7 D (yAt n 1) (yAu n) ((1:Nat):Int) (yAh r)).2=yCl D n 1 r:=rfl
  rw [hA] at s0 a2
  rw [eE,eW]
  obtain ⟨b1,b2,b3,b4,b5⟩:=yHo (D:=yCl D n 1 r) s0 0 1 (yBd n (yAh r).length) zO (Nat.le_refl _) zO hh
  have hD:yA6 (yCl D n 1 r) ((0:Nat):Int) ((1:Nat):Int) (yBd n (yAh r).length)=yDU D n 1 r:=rfl
  rw [hD] at b1 b2
  rcases b1 with ⟨g0,g1,-⟩|⟨g0,-,-⟩
  ·have g0:yBu (yCl D n 1 r) 0 ((1:Nat):Int) (yBd n (yAh r).length)=0:=g0
   rw [g0]
   have:=yHd (W:=W) (F:=F) (N:=N) (a:=a) (r:=r) (q:=q) (s:=s) (d:=d) (b:=b) (D:=D) hE8 hN h1 h2 0 zO none life false hT hn hr hul e0 s0.und (by rw [a2,hn]) g0 g1.on (by rw [b2,a2,hn])
   exact this.to (fun _=>()) (fun _=>rfl) (fun _ R=>(xN))
  ·have g0:yBu (yCl D n 1 r) 0 ((1:Nat):Int) (yBd n (yAh r).length)=12:=g0
   rw [g0]
   have:=yNd (W:=W) (F:=F) (N:=N) (a:=a) (r:=r) (q:=q) (s:=s) (d:=d) (b:=b) (D:=D) hE8 hN h1 h2 0 zO none life false hT hn hr hul e0 s0.und (by rw [a2,hn]) g0
   exact this.to (fun _=>()) (fun _=>rfl) (fun _ R=>(xN))
 ·have eE:yWT D n r=12:=by unfold yWT;rw [if_pos (by rw [e0];simp),e0]
  have eW:yWU D n r=yCl D n 1 r:=by unfold yWU;rw [if_pos (by rw [e0];simp)]
  rw [eE,eW]
  have:=yNc (W:=W) (F:=F) (N:=N) (a:=a) (r:=r) (q:=q) (s:=s) (d:=d) (b:=b) (D:=D) hE8 hN h1 h2 0 zO none life false hT hn hr hul e0
  exact this.to (fun _=>()) (fun _=>rfl) (fun _ R=>(xN))
end
section
variable {W:World} {F:Nat→Addr} {r:Rows} {d n:Nat} {D:Dsk}
theorem yOE (hE8:ErrsOn L8 W F) (hN:NibAt W) (h1:64≤n) (h2:n≤65536) (h:Still D) (hn:D.n=n) (hs:yA9 D 0=14) (A:SP) (oa:Option Addr) (oc:Nat) (ops:List BOp) (hL:Lv W opC 3 A oa ops) (ho:ops.length≤100000000) (hr:yAJ [] ops=r) (hsn:(yAh r).length≤234*yAu n) :
 CtU prog W 12 [zPp d,.slice oa ops.length oc] [A,DiskP d D] (yAr F (yWT D n r)) [A,DiskP d (yWU D n r)]:=by
 have hA:=yA8 h2
 obtain ⟨ea,hea⟩:=yCW (E:=F) (show (14:Nat)≠0 by omega)
 have cr:CtU prog W 27 [zPp d,.int .i64 0] [DiskP d D] (.tuple #[strV [],.int .i64 0,.iface 281 (.pointer (some ea))]) [DiskP d D]:=by
  have:=yCE (W:=W) (p:=d) (D:=D) hE8 hN zO 0
  rw [hs,hea] at this
  have e1:yBt D 0=[]:=by unfold yBt;rw [hs];rfl
  have e2:yBC D 0=0:=by unfold yBC;rw [hs];rfl
  rw [e1,e2] at this
  exact this
 have csz:CtU prog W 25 [zPp d] [DiskP d D] (.int .i64 (n:Nat)) [DiskP d D]:=by
  have:=yBs (W:=W) (p:=d) (D:=D)
  rw [hn] at this
  exact this
 have cof:CtU prog W 26 [zPp d] [DiskP d D] (.bool false) [DiskP d D]:=by
  have:=yD5 (W:=W) (p:=d) (D:=D)
  rw [h.on] at this
  exact this
 have cov:=yFw (W:=W) (d:=d) (D:=D) h1 h2 hn
 have cap:=fun q=>yCY (W:=W) (N:=[]) (ta:=none) (r:=[]) (p:=q) (tb:=0) (TbOk.nil []) A oa oc ops hL (by simp;omega)
 rw [hr] at cap
 have csi:=fun (q:Nat) (N:List Nd) (a:Option Addr) (b:Int) (hT:TbOk N a r)=>yEd (W:=W) (N:=N) (p:=q) (b:=b) hT zO
 have cro:=fun s q=>yCr (W:=W) (s:=s) (d:=d) (q:=q) (n:=n) 0 none D.life false h2
 have cfo:=fun (s q:Nat) (N:List Nd) (a:Option Addr) (b:Int) (hT:TbOk N a r)=>yTZ (W:=W) (F:=F) (s:=s) (d:=d) (q:=q) (b:=b) (D:=D) hE8 hN h1 h2 D.life hT h hn hsn
 obtain ⟨D2,hD2⟩:∃ D2,D2=yWU D n r:=⟨_,rfl⟩
 obtain ⟨ee,hee⟩:∃ e,e=yWT D n r:=⟨_,rfl⟩
 have q1:decide ((n:Int)<64)=false:=zZ zO
 have q2:decide (((234*yAu n:Nat):Int)<((yAh r).length:Nat))=false:=zZ zO
 rw [← hD2,← hee] at cfo ⊢
 clear hD2 hee
 refine Ct.enter func12 rfl ntmps12 zW (fun R=>?_)
 refine KJ.arNil ?_
 repeat' (first|(refine yAb ?_;first|refine xca (cfo _ _ _ _ _ hT) fun _=>?_|refine xca (cro _ _) fun _=>?_|refine xca (csi _ _ _ _ hT) fun _=>?_|refine xca (cap _) fun x=>?_;obtain ⟨⟨N,a,b⟩,gN,hT⟩:=x;dsimp only at gN hT ⊢|refine xca cov fun x=>?_;obtain ⟨s,q⟩:=x|refine xca cr fun _=>?_|refine xca cof fun _=>?_|refine xca csz fun _=>?_)|refine yAa (yAc rfl rfl q1) ?_|refine yAa (yAe rfl rfl q2) ?_|refine xst ?_|refine xsa ?_;intro _|refine xsb ?_ ?_<;>intro _<;>try omega|refine xsc ?_|exact xdn ()|fail)
theorem yNe (hE:ErrsOn L16 W F) (hE8:ErrsOn L8 W F) (hN:NibAt W) (h1:64≤n) (h2:n≤65536) (h:Still D) (hn:D.n=n) (hs:yA9 D 0=14) (A:SP) (oa:Option Addr) (oc:Nat) (ops:List BOp) (hL:Lv W opC 3 A oa ops) (ho:ops.length≤100000000) (hr:yAJ [] ops=r) (hbig:234*yAu n<(yAh r).length) (hmax:(yAh r).length≤4611686018427387904) :
 CtU prog W 12 [zPp d,.slice oa ops.length oc] [A,DiskP d D] (yAr F 17) [A,DiskP d D]:=by
 have hA:=yA8 h2
 have e17:W.cell? ⟨4,0,none⟩=some (yAr F 17):=hE.at_ 17 zX
 obtain ⟨ea,hea⟩:=yCW (E:=F) (show (14:Nat)≠0 by omega)
 have cr:CtU prog W 27 [zPp d,.int .i64 0] [DiskP d D] (.tuple #[strV [],.int .i64 0,.iface 281 (.pointer (some ea))]) [DiskP d D]:=by
  have:=yCE (W:=W) (p:=d) (D:=D) hE8 hN zO 0
  rw [hs,hea] at this
  have e1:yBt D 0=[]:=by unfold yBt;rw [hs];rfl
  have e2:yBC D 0=0:=by unfold yBC;rw [hs];rfl
  rw [e1,e2] at this
  exact this
 have csz:CtU prog W 25 [zPp d] [DiskP d D] (.int .i64 (n:Nat)) [DiskP d D]:=by
  have:=yBs (W:=W) (p:=d) (D:=D)
  rw [hn] at this
  exact this
 have cof:CtU prog W 26 [zPp d] [DiskP d D] (.bool false) [DiskP d D]:=by
  have:=yD5 (W:=W) (p:=d) (D:=D)
  rw [h.on] at this
  exact this
 have cov:=yFw (W:=W) (d:=d) (D:=D) h1 h2 hn
 have cap:=fun q=>yCY (W:=W) (N:=[]) (ta:=none) (r:=[]) (p:=q) (tb:=0) (TbOk.nil []) A oa oc ops hL (by simp;omega)
 rw [hr] at cap
 have csi:=fun (q:Nat) (N:List Nd) (a:Option Addr) (b:Int) (hT:TbOk N a r)=>yEd (W:=W) (N:=N) (p:=q) (b:=b) hT hmax
 have cro:=fun s q=>yCr (W:=W) (s:=s) (d:=d) (q:=q) (n:=n) 0 none D.life false h2
 have q1:decide ((n:Int)<64)=false:=zZ zO
 have q2:decide (((234*yAu n:Nat):Int)<((yAh r).length:Nat))=true:=zY zO
 refine Ct.enter func12 rfl ntmps12 zW (fun R=>?_)
 refine KJ.arNil ?_
 repeat' (first|(refine yAb ?_;first|refine xca (cro _ _) fun _=>?_|refine xca (csi _ _ _ _ hT) fun _=>?_|refine xca (cap _) fun x=>?_;obtain ⟨⟨N,a,b⟩,gN,hT⟩:=x;dsimp only at gN hT ⊢|refine xca cov fun x=>?_;obtain ⟨s,q⟩:=x|refine xca cr fun _=>?_|refine xca cof fun _=>?_|refine xca csz fun _=>?_)|refine yAj ?_;refine yAa (yAn rfl e17) ?_|refine yAa (yAc rfl rfl q1) ?_|refine yAa (yAe rfl rfl q2) ?_|refine xst ?_|refine xsa ?_;intro _|refine xsb ?_ ?_<;>intro _<;>try omega|refine xsc ?_|exact xdn ()|fail)
end
end Go.Proofs.YtlnbkbfblhofbaaGreatDoor
