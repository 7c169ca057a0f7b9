/-
  JRf0, JRf1, JEa, JRf2.
-/
import Derived.Test.YtlnbkbfblhofbaaGreatDoorVEZ
import Derived.Test.YtlnbkbfblhofbaaGreatDoorVFZ
set_option maxRecDepth 100000
set_option maxHeartbeats 64000000
namespace Go.Proofs.YtlnbkbfblhofbaaGreatDoor
open Go Go.RowKit
open Go.Proofs.Tryz
def yE3 (q:List UInt8):Nat:=(q.getD 1 0).toNat+(q.getD 2 0).toNat*256+(q.getD 3 0).toNat*65536+(q.getD 4 0).toNat*16777216
theorem yHU (q:List UInt8):yC1 q 4=(yE3 q:Int):=by
 have b1:=zLy (q.getD 1 0)
 have b2:=zLy (q.getD 2 0)
 have b3:=zLy (q.getD 3 0)
 have s0:=yCi q 0 0 zO zX rfl
 have s1:=yCi q 1 _ zO (by show 0+(q.getD 1 0).toNat*1<256;omega) s0
 have s2:=yCi q 2 _ zO (by show 0+(q.getD 1 0).toNat*1+(q.getD 2 0).toNat*256<65536;omega) s1
 have s3:=yCi q 3 _ zO (by show 0+(q.getD 1 0).toNat*1+(q.getD 2 0).toNat*256+(q.getD 3 0).toNat*65536<16777216;omega) s2
 rw [s3]
 show (((0+(q.getD 1 0).toNat*1+(q.getD 2 0).toNat*256+(q.getD 3 0).toNat*65536+(q.getD 4 0).toNat*16777216:Nat)):Int)=((yE3 q:Nat):Int)
 unfold yE3
 omega
def txt:List (List UInt8)→List UInt8
 |[]=>[]
 |q::r=>q.drop 5++r.flatMap (·.drop 1)
theorem yVW (P:List (List UInt8)) (h:P≠[]) (q:List UInt8):txt (P++[q])=txt P++q.drop 1:=by
 cases P with
 |nil=>exact absurd rfl h
 |cons p r=>simp [txt,List.flatMap_append]
theorem yQ0:∀ (f:Nat) (l:List UInt8),l.length≤233*f→(yBi f l).flatMap (·.drop 1)=l:=by
 intro f
 induction f with
 |zero=>intro l h;have:l=[]:=List.length_eq_zero_iff.1 zO;subst this;rfl
 |succ f ih=>
  intro l h
  by_cases h0:l=[]
  ·subst h0;rw [yCh];rfl
  ·rw [yBY _ _ h0,zLr,ih _ (by rw [zLf];omega)]
   show l.take 233++l.drop 233=l
   exact zLu _ _
theorem yYp (s:List UInt8):txt (yCK s)=s:=by
 show (yEu s.length++s.take 229).drop 5++(yBi s.length (s.drop 229)).flatMap (·.drop 1)=s
 rw [yQ0 _ _ (by rw [zLf];omega)]
 show s.take 229++s.drop 229=s
 exact zLu _ _
theorem yYq (s:List UInt8) (j:Nat) (p:List UInt8) (h:(yCK s)[j]? = some p):1≤p.length:=by
 cases j with
 |zero=>
  have h':some (yEu s.length++s.take 229)=some p:=h
  cases h'
  rw [zLa]
  show 1≤5+_
  omega
 |succ j=>
  have h':(yBi s.length (s.drop 229))[j]? = some p:=h
  have key:∀ (f:Nat) (l:List UInt8),∀ p ∈ yBi f l,1≤p.length:=by
   intro f
   induction f with
   |zero=>intro l p hp;cases hp
   |succ f ih=>
    intro l p hp
    by_cases h0:l=[]
    ·subst h0;rw [yCh] at hp;cases hp
    ·rw [yBY _ _ h0] at hp
     rcases zLm.1 hp with rfl|hp
     ·rw [zLj];omega
     ·exact ih _ _ hp
  exact key _ _ _ (zLk h')
section
variable {D:Dsk} {at_ n:Int} {ver:Nat}
theorem yTO (i:Nat) (L:Nat):∀ (f:Nat) (k:Nat) (out s:List UInt8),out.length≤L→(L-out.length+232) / 233=f→yDX D at_ n ver i (L:Int) f k out=some s→
 ∃ l:List UInt8,s=out++l∧out.length+l.length=L∧∀ (F:Nat),l.length≤233*F→∀ j p,(yBi F l)[j]? = some p→yCG D at_ n ver (i+k+j)=some p:=by
 intro f
 induction f with
 |zero=>
  intro k out s h1 h2 h
  have h:some out=some s:=h
  cases h
  exact ⟨[],by simp,by simp;omega,fun F _ j p hp=>by rw [yCh] at hp;simp at hp⟩
 |succ f ih=>
  intro k out s h1 h2 h
  have hunf:yDX D at_ n ver i (L:Int) (f+1) k out=match yCG D at_ n ver (i+k) with
   |none=>none
   |some q=>if (q.length:Int)≠1+min ((L:Int)-out.length) 233 then none else if q.getD 0 0≠0 then none else yDX D at_ n ver i (L:Int) f (k+1) (out++q.drop 1):=rfl
  rw [hunf] at h
  clear hunf
  cases hq:yCG D at_ n ver (i+k) with
  |none=>rw [hq] at h;cases h
  |some q=>
   rw [hq] at h
   dsimp only at h
   split at h
   ·cases h
   rename_i hl
   split at h
   ·cases h
   rename_i h0
   have hl:(q.length:Int)=1+min ((L:Int)-out.length) 233:=by simpa using hl
   have h0:q.getD 0 0=0:=by simpa using h0
   have hd:(q.drop 1).length=min (L-out.length) 233:=by rw [zLf];omega
   obtain ⟨l',e1,e2,e3⟩:=ih (k+1) (out++q.drop 1) s (by rw [zLa,hd];omega) (by rw [zLa,hd];omega) h
   rw [zLa,hd] at e2
   refine ⟨q.drop 1++l',by rw [e1,zLd],by rw [zLa,hd];omega,fun F hF j p hp=>?_⟩
   rw [zLa,hd] at hF
   obtain ⟨F',rfl⟩:∃ F',F=F'+1:=⟨F-1,zO⟩
   have hne:q.drop 1++l'≠[]:=by
    intro e
    have:=congrArg List.length e
    rw [zLa,hd] at this
    simp at this
    omega
   have hqc:q=0::q.drop 1:=by
    cases q with
    |nil=>simp at hl;omega
    |cons c q=>have:c=0:=h0
               subst this;rfl
   have htk:(q.drop 1++l').take 233=q.drop 1∧(q.drop 1++l').drop 233=l':=by
    by_cases hb:233≤L-out.length
    ·have:(q.drop 1).length=233:=by omega
     exact ⟨by rw [List.take_append_of_le_length zO,zLi zO],by rw [List.drop_append_of_le_length zO,zLl zO];rfl⟩
    ·have:l'=[]:=List.length_eq_zero_iff.1 zO
     subst this
     rw [zLs]
     exact ⟨zLi zO,zLl zO⟩
   rw [yBY _ _ hne,htk.1,htk.2,← hqc] at hp
   cases j with
   |zero=>cases hp;rw [zLz];exact hq
   |succ j=>
    have:=e3 F' zO j p (by simpa using hp)
    rwa [show i+(k+1)+j=i+k+(j+1) by omega] at this
theorem yQ1 (q:List UInt8) (h5:5≤q.length) (h1:q.getD 0 0=1):yEu (yE3 q)=q.take 5:=by
 obtain ⟨c0,q,rfl⟩:=List.exists_cons_of_length_pos (l:=q) zO
 obtain ⟨c1,q,rfl⟩:=List.exists_cons_of_length_pos (l:=q) (by simp at h5;omega)
 obtain ⟨c2,q,rfl⟩:=List.exists_cons_of_length_pos (l:=q) (by simp at h5;omega)
 obtain ⟨c3,q,rfl⟩:=List.exists_cons_of_length_pos (l:=q) (by simp at h5;omega)
 obtain ⟨c4,q,rfl⟩:=List.exists_cons_of_length_pos (l:=q) (by simp at h5;omega)
 have h1:c0=1:=h1
 subst h1
 have b1:=zLy c1
 have b2:=zLy c2
 have b3:=zLy c3
 have b4:=zLy c4
 obtain ⟨m,hm⟩:∃ m,m=yE3 (1::c1::c2::c3::c4::q):=⟨_,rfl⟩
 have hz:m=c1.toNat+c2.toNat*256+c3.toNat*65536+c4.toNat*16777216:=hm
 rw [← hm]
 have key:∀ (c:UInt8) (m:Nat),m=c.toNat→UInt8.ofNat m=c:=fun c m h=>by rw [h];exact UInt8.ofNat_toNat
 have e1:UInt8.ofNat (m % 256)=c1:=key _ _ zO
 have e2:UInt8.ofNat (m / 256 % 256)=c2:=key _ _ zO
 have e3:UInt8.ofNat (m / 65536 % 256)=c3:=key _ _ zO
 have e4:UInt8.ofNat (m / 16777216 % 256)=c4:=key _ _ zO
 unfold yEu
 rw [e1,e2,e3,e4]
 rfl
theorem yLT {i:Nat} {s:List UInt8} {u:Int} (h:yEF D at_ n ver i=some (s,u)):∃ q,yCG D at_ n ver i=some q∧yC1 q 4=(s.length:Nat)∧u=yBQ s.length∧∀ j p,(yCK s)[j]? = some p→yCG D at_ n ver (i+j)=some p:=by
 unfold yEF at h
 cases hq:yCG D at_ n ver i with
 |none=>rw [hq] at h;cases h
 |some q=>
  rw [hq] at h
  dsimp only at h
  split at h
  ·cases h
  rename_i h5
  split at h
  ·cases h
  rename_i h1
  split at h
  ·cases h
  split at h
  ·cases h
  rename_i hl
  rw [yHU] at h hl
  obtain ⟨Z,hZ⟩:∃ Z,Z=yE3 q:=⟨_,rfl⟩
  rw [← hZ] at h hl
  have hl:((q.drop 5).length:Int)=min ((Z:Nat):Int) 229:=by simpa using hl
  have h1:q.getD 0 0=1:=by simpa using h1
  cases hg:yDX D at_ n ver i ((Z:Nat):Int) (yBQ (Z:Nat)-1).toNat 1 (q.drop 5) with
  |none=>rw [hg] at h;cases h
  |some s'=>
   rw [hg] at h
   simp only [Option.some.injEq,Prod.mk.injEq] at h
   obtain ⟨rfl,rfl⟩:=h
   have hcnt:(Z-(q.drop 5).length+232) / 233=(yBQ (Z:Nat)-1).toNat:=by
    unfold yBQ
    split
    ·omega
    split <;> omega
   obtain ⟨l,e1,e2,e3⟩:=yTO i (Z) _ 1 (q.drop 5) s' zO hcnt hg
   have hs:s'.length=Z:=by rw [e1,zLa];exact e2
   refine ⟨q,rfl,by rw [yHU,hs,hZ],by rw [hs],fun j p hp=>?_⟩
   have htk:s'.take 229=q.drop 5∧s'.drop 229=l:=by
    rw [e1]
    by_cases hb:229≤Z
    ·have:(q.drop 5).length=229:=by omega
     exact ⟨by rw [List.take_append_of_le_length zO,zLi zO],by rw [List.drop_append_of_le_length zO,zLl zO];rfl⟩
    ·have:l=[]:=List.length_eq_zero_iff.1 zO
     subst this
     rw [zLs]
     exact ⟨zLi zO,zLl zO⟩
   have hhd:yEu s'.length=q.take 5:=by rw [hs,hZ];exact yQ1 q zO h1
   unfold yCK at hp
   rw [htk.1,htk.2,hhd,zLu] at hp
   cases j with
   |zero=>cases hp;exact hq
   |succ j=>
    have:=e3 s'.length zO j p (by simpa using hp)
    rwa [show i+1+j=i+(j+1) by omega] at this
end
section
variable {D:Dsk} {at_ n:Int} {ver:Nat}
theorem yTP {i:Nat} {s:List UInt8} {u:Int} (h:yEF D at_ n ver i=some (s,u)) (P:List (List UInt8)) (hp:∀ j p,P[j]? = some p→yCG D at_ n ver (i+j)=some p) (hl:(P.length:Int)≤u):P=(yCK s).take P.length:=by
 obtain ⟨q,-,-,hu,hall⟩:=yLT h
 have hL:=yCL s
 apply List.ext_getElem?
 intro j
 by_cases hj:j<P.length
 ·rw [List.getElem?_take,if_pos hj]
  have h1:=hp j _ (zLb hj)
  have hj2:j<(yCK s).length:=zO
  have h2:=hall j _ (zLb hj2)
  rw [h1] at h2
  rw [zLb hj,zLb hj2]
  exact h2
 ·rw [List.getElem?_eq_none zO,List.getElem?_eq_none (by rw [zLg];omega)]
theorem yJM {i:Nat} {s:List UInt8} {u:Int} {q:List UInt8} (h:yEF D at_ n ver i=some (s,u)) (hq:yCG D at_ n ver i=some q):yE3 q=s.length∧u=yBQ (yE3 q:Nat)∧((yCK s).length:Int)=u:=by
 obtain ⟨q',h1,h2,h3,-⟩:=yLT h
 rw [hq] at h1;cases h1
 rw [yHU] at h2
 have e:yE3 q=s.length:=zO
 exact ⟨e,by rw [e];exact h3,by rw [yCL,h3]⟩
theorem yIE {i:Nat} (h:∀ s u,yEF D at_ n ver i=some (s,u)→False):yEF D at_ n ver i=none:=by
 cases hr:yEF D at_ n ver i with
 |none=>rfl
 |some su=>exact (h su.1 su.2 (by rw [hr])).elim
theorem yVX {i k:Nat} {q:List UInt8} (hq:yCG D at_ n ver i=some q) (hk:(k:Int)<yBQ (yE3 q:Nat)) (h:∀ p,yCG D at_ n ver (i+k)=some p→p.length<1):yEF D at_ n ver i=none:=by
 refine yIE fun s u hr=>?_
 obtain ⟨e1,e2,e3⟩:=yJM hr hq
 obtain ⟨-,-,-,-,hall⟩:=yLT hr
 have hj:k<(yCK s).length:=zO
 have h1:=hall k _ (zLb hj)
 have h2:=yYq s k _ (zLb hj)
 have:=h _ h1
 omega
theorem yVY {i:Nat} {q:List UInt8} {P:List (List UInt8)} (hq:yCG D at_ n ver i=some q) (hp:∀ j p,P[j]? = some p→yCG D at_ n ver (i+j)=some p) (hl:(P.length:Int)=yBQ (yE3 q:Nat)) {s:List UInt8} {u:Int} (h:yEF D at_ n ver i=some (s,u)):P=yCK s∧txt P=s∧s.length=yE3 q:=by
 obtain ⟨e1,e2,e3⟩:=yJM h hq
 have:=yTP h P hp zO
 rw [zLi zO] at this
 exact ⟨this,by rw [this];exact yYp s,e1.symm⟩
theorem yVZ {i:Nat} {s:List UInt8} (hs:s.length<2147483648) (hp:∀ j p,(yCK s)[j]? = some p→yCG D at_ n ver (i+j)=some p) (hn:(i:Int)+(yCK s).length≤n):yEF D at_ n ver i=some (s,((yCK s).length:Int)):=by
 rcases ySN (D:=D) (at_:=at_) (n:=n) (ver:=ver) i s hs (fun j p h=>.inl (hp j p h)) hn with ⟨h,-⟩|⟨-,j,hj,h⟩
 ·exact h
 ·have:=hp j _ (zLb hj)
  rw [h] at this;cases this
theorem yQ2 {i:Nat} {q:List UInt8} (hq:yCG D at_ n ver i=some q) (h:q.length<5):yEF D at_ n ver i=none:=by unfold yEF;rw [hq];dsimp only;rw [if_pos h]
theorem yTQ {i:Nat} {q:List UInt8} (hq:yCG D at_ n ver i=some q) (h:q.getD 0 0≠1):yEF D at_ n ver i=none:=by
 unfold yEF;rw [hq];dsimp only
 split
 ·rfl
 ·first|rfl|rw [if_pos h]
theorem yTR {i:Nat} {q:List UInt8} (hq:yCG D at_ n ver i=some q) (h:n-(i:Int)<yBQ (yE3 q:Nat)):yEF D at_ n ver i=none:=by
 refine yIE fun s u hr=>?_
 obtain ⟨e1,e2,e3⟩:=yJM hr hq
 have:=(yFn hr).2
 omega
end
theorem KJ.fact {W:World} {n:Nat} {k:KK} {E:Env} {H R:List SP} {p:Prop} (hs:Sel (yJT p) H R) (h:p→KJ W n k E H):KJ W n k E H:=⟨fun a w q s=>(h (s.left.fact hs)).go a w q s⟩
theorem yFD {P:Program} {W:World} {n:Nat} {E:Env} {H:List SP} {q:QQ} {id:Nat} {c c2:Code} (h:KJ W n (.code P (Code.seq (Code.block id c) c2) q) E H):KJ W n (.code P (Code.seq (Code.block id c) c2) q) E H:=h
theorem KJ.asv {W:World} {n:Nat} {k:KK} {E:Env} {H:List SP} (t:Nat) {v v':Value} (q:Env.at E t=some v) (e:v=v') (h:KJ W n k ((t,v')::E) H):KJ W n k E H:=by subst e;exact KJ.also t q h
section
variable {W:World} {E:Nat→Addr} {p g:Nat} {D:Dsk}
theorem yTS (at_ n ver:Int) (hn:D.n≤65536) (h:yMJ D at_ n ver):CtU prog W 153 [zPp p,.int .i64 at_,.int .i64 n,.int .i64 ver] [yBc p D] (.bool true) [yBc p D]:=by
 obtain ⟨h1,h2,h3,h4,h5,h6,h7⟩:=h
 have q0:decide (0≤at_)=true:=zY zO
 have q1:decide (0≤n)=true:=zY zO
 have q2:decide (at_≤(D.n:Int))=true:=zY zO
 have q3:decide (n≤(D.n:Int)-at_)=true:=zY zO
 have q4:decide (n≤65536)=true:=zY zO
 have q5:decide (1≤ver)=true:=zY zO
 have q6:decide (ver≤1099511627776)=true:=zY zO
 refine yIk fun sv wv=>?_
 rw [yAX]
 refine Ct.enter func153 rfl ntmps153 zW (fun R=>?_)
 refine KJ.row_slice xS (fun sa sc e=>?_)
 subst e
 repeat' (first|(refine yMe ?_;first|refine yAa (yAS rfl rfl q6) ?_|refine yAa (yAS rfl rfl q4) ?_|refine yAa (yAS rfl rfl q3) ?_|refine yAa (yAS rfl rfl q2) ?_)|(refine yIR ?_;first|refine yAa (yAm rfl rfl q5) ?_|refine yAa (yAm rfl rfl q1) ?_|refine yAa (yAm rfl rfl q0) ?_)|refine xst ?_|refine xsa ?_;intro _|refine xsb ?_ ?_<;>intro _<;>try omega|refine xsc ?_|fail)
 (refine yCy ?_;exact yBA (by first|exact Or.inl rfl|exact Or.inr rfl) rfl (by (repeat' (first|exact Rvs.nil|(apply Rvs.tmp;exact rfl)));first|done|fail) (by rfl) _ _ (by rw [yAX];exact (xN)))
theorem yYr (v i:Nat) (hv:1≤v∧v≤1099511627776) (hi:i<65536):CtU prog W 202 [.int .i64 (v:Nat),.int .i64 (i:Nat)] [] (.tuple #[.int .u64 (yAW v i:Nat),.int .i64 0]) []:=by
 have q1:decide ((v:Int)<1)=false:=zZ zO
 have q2:decide ((1099511627776:Int)<(v:Int))=false:=zZ zO
 have q3:decide ((i:Int)<0)=false:=zZ zO
 have q4:decide ((65536:Int)≤(i:Int))=false:=zZ zO
 have c1:IntKind.u64.wrap (v:Int)=(v:Int):=yBa v zO
 have c2:IntKind.u64.wrap (i:Int)=(i:Int):=yBa i zO
 have c3:IntKind.u64.wrap ((v:Int)*1048576)=((v*1048576:Nat):Int):=by
  rw [show (v:Int)*1048576=((v*1048576:Nat):Int) by omega]
  exact yBa _ zO
 have c4:IntKind.u64.wrap (((v*1048576:Nat):Int)+(i:Int))=((v*1048576+i:Nat):Int):=yBa (v*1048576+i) zO
 have c5:IntKind.u64.wrap (((v*1048576+i:Nat):Int)+1)=((yAW v i:Nat):Int):=yBa (v*1048576+i+1) zO
 obtain ⟨a2,ha2⟩:∃ a2,a2=v*1048576+i:=⟨_,rfl⟩
 obtain ⟨a1,ha1⟩:∃ a1,a1=v*1048576:=⟨_,rfl⟩
 obtain ⟨a3,ha3⟩:∃ a3,a3=yAW v i:=⟨_,rfl⟩
 rw [← ha2] at c4 c5
 rw [← ha1] at c3 c4
 rw [← ha3] at c5 ⊢
 clear ha1 ha2 ha3
 refine Ct.enter func202 rfl ntmps202 zW (fun R=>?_)
 repeat' (first|(refine yEf ?_;first|refine yAa (yAg rfl c2) ?_|refine yAa (yAg rfl c1) ?_)|(refine yWf ?_;first|refine yAa (yB8 rfl rfl c5) ?_|refine yAa (yB8 rfl rfl c4) ?_)|refine yRP ?_;refine yAa (yPz rfl rfl c3) ?_|(refine yFg ?_;first|refine yAa (yAc rfl rfl q3) ?_|refine yAa (yAc rfl rfl q1) ?_)|refine yF5 ?_;refine yAa (yAe rfl rfl q2) ?_|refine yIR ?_;refine yAa (yAm rfl rfl q4) ?_|refine xst ?_|refine xsa ?_;intro _|refine xsb ?_ ?_<;>intro _<;>try omega|refine xsc ?_|exact xdn ()|fail)
theorem yTT (hok:D.ok) (hul:D.und.length<1073741824) (at_ n:Int) (ver i:Nat) (hn:D.n≤65536) (ho:D.off=false) (h:yMJ D at_ n (ver:Nat)) (hi:(i:Int)<n):CtU prog W 189 [zPp p,.int .i64 at_,.int .i64 (i:Nat),.int .i64 (ver:Nat)] [yBc p D] (.tuple #[strV ((yCG D at_ n ver i).getD []),.bool (yCG D at_ n ver i).isSome]) [yBc p D]:=by
 obtain ⟨h1,h2,h3,h4,h5,h6,h7⟩:=h
 have c1:=yJL (W:=W) (p:=p) hok (at_+(i:Nat)) hul
 have c2:=yYr (W:=W) ver i zO zO
 have c3:=yLR (W:=W) (yAW ver i) (yLx zO zO) (D.readS (at_+(i:Nat)))
 have hE:D.readE (at_+(i:Nat))=0:=by
  unfold Dsk.readE Dsk.has
  rw [ho,zY (show (0:Int)≤at_+(i:Nat)∧at_+(i:Nat)<D.n by omega)];rfl
 have hp:yCG D at_ n ver i=yBU (yAW ver i:Nat) (D.readS (at_+(i:Nat))):=by unfold yCG;rw [if_neg zO,hE,if_neg (fun q=>q rfl)]
 rw [hE] at c1
 rw [hp]
 obtain ⟨o,hoo⟩:∃ o,o=yBU (yAW ver i:Nat) (D.readS (at_+(i:Nat))):=⟨_,rfl⟩
 rw [← hoo] at c3 ⊢
 obtain ⟨a,ha⟩:∃ a,at_+((i:Nat):Int)=a:=⟨_,rfl⟩
 rw [ha] at c1 c3
 refine Ct.enter func189 rfl ntmps189 zW (fun R=>?_)
 repeat' (first|(refine yAb ?_;first|refine xca c3 fun _=>?_|refine xca c2 fun _=>?_|refine xca c1 fun _=>?_)|refine yWf ?_;refine yAa (yAd rfl rfl ha zO) ?_|refine yD3 ?_;refine yAa (yAv rfl rfl rfl) ?_|refine xst ?_|refine xsa ?_;intro _|refine xsb ?_ ?_<;>intro _<;>try omega|refine xsc ?_|exact xdn ()|fail)
theorem yQ3 (r:List UInt8) (hl:r.length≤16777216):Ct prog W 191 [strV r] [] (fun x:Nat × Nat=>.slice (some ⟨x.1,0,none⟩) (yCK r).length x.2) (fun x=>[yAP (.slice (some ⟨x.1,0,none⟩) (yCK r).length x.2) 9 1 (yCK r).length ((yCK r).map strV)]):=by
 obtain ⟨res,hres⟩:∃ res,res=yCK r:=⟨_,rfl⟩
 rw [← hres]
 have b0:=yMK r.length
 have b1:=yFP r.length 256
 have b2:=yFP r.length 65536
 have b3:=yFP r.length 16777216
 have s1:((r.length:Nat):Int).fdiv (2 ^ (min (8:Int).toNat IntKind.i64.bits))=((r.length / 256:Nat):Int):=yHI r.length 8 zO
 have s2:((r.length:Nat):Int).fdiv (2 ^ (min (16:Int).toNat IntKind.i64.bits))=((r.length / 65536:Nat):Int):=yHI r.length 16 zO
 have s3:((r.length:Nat):Int).fdiv (2 ^ (min (24:Int).toNat IntKind.i64.bits))=((r.length / 16777216:Nat):Int):=yHI r.length 24 zO
 obtain ⟨c0,hc0⟩:∃ c,c=UInt8.ofNat (r.length % 256):=⟨_,rfl⟩
 obtain ⟨c1,hc1⟩:∃ c,c=UInt8.ofNat (r.length / 256 % 256):=⟨_,rfl⟩
 obtain ⟨c2,hc2⟩:∃ c,c=UInt8.ofNat (r.length / 65536 % 256):=⟨_,rfl⟩
 obtain ⟨c3,hc3⟩:∃ c,c=UInt8.ofNat (r.length / 16777216 % 256):=⟨_,rfl⟩
 have hhead:yEu r.length=[1,c0,c1,c2,c3]:=by rw [hc0,hc1,hc2,hc3];rfl
 rw [← hc0] at b0
 rw [← hc1] at b1
 rw [← hc2] at b2
 rw [← hc3] at b3
 obtain ⟨n1,hn1⟩:∃ m,m=r.length / 256:=⟨_,rfl⟩
 obtain ⟨n2,hn2⟩:∃ m,m=r.length / 65536:=⟨_,rfl⟩
 obtain ⟨n3,hn3⟩:∃ m,m=r.length / 16777216:=⟨_,rfl⟩
 rw [← hn1] at s1 b1
 rw [← hn2] at s2 b2
 rw [← hn3] at s3 b3
 obtain ⟨ct,hct⟩:∃ m,m=min r.length 229:=⟨_,rfl⟩
 obtain ⟨r1,hr1⟩:∃ x,x=r.take ct:=⟨_,rfl⟩
 have hr1l:r1.length≤229:=by rw [hr1,zLg];omega
 have ht:r.take 229=r1:=by rw [hr1,hct];exact List.take_eq_take_iff.2 zO
 have hd:r.drop ct=r.drop 229:=by
  rw [hct]
  by_cases hh:r.length≤229
  ·rw [zLl zO,zLl zO]
  ·rw [show min r.length 229=229 by omega]
 have hall:[[1,c0,c1,c2,c3]++r1]++yBi r.length (r.drop ct)=res:=by rw [hres,hd,← ht,← hhead];rfl
 clear hc0 hc1 hc2 hc3 hn1 hn2 hn3 hhead hres hd
 have hctl:ct≤r.length:=zO
 refine Ct.enter func191 rfl ntmps191 zW (fun R=>?_)
 apply yI4 (fun K=>∀ g2,KJ W 52 K [(0,strV r),(3,.int .i64 (r.length:Nat)),(5,.int .i64 (ct:Nat)),(6,.slice (some ⟨g2,0,none⟩) 1 1)] ([yAP (.slice (some ⟨g2,0,none⟩) 1 1) 9 1 1 [strV ([1,c0,c1,c2,c3]++r1)]]++R))
 ·intro rest
  by_cases hk:229≤r.length
  ·have qk:decide (((r.length:Nat):Int)<229)=false:=zZ zO
   have h5:Value.int .i64 229=.int .i64 ((ct:Nat):Int):=by rw [show ct=229 by omega];rfl
   have ht':r.take ((229:Int)).toNat=r1:=ht
   repeat' (first|refine yFD (id:=0) ?_;refine KJ.asv 5 rfl h5 ?_;refine KJ.toRow (e:=9) (m:=1) (size:=1) xS (by rfl) (by unfold maxLen;omega) ?_;exact KJ.weak (rest _) xB (xN)|(refine yAF ?_;first|refine yAI rfl xF (by rfl) zO rfl (fun g2=>?_)|refine yJb (v0:=1) (v1:=c0) (v2:=c1) (v3:=c2) (v4:=c3) rfl rfl rfl rfl rfl rfl (fun g1=>?_))|(refine yEf ?_;first|refine yAa (yC4 (l:=[1,c0,c1,c2,c3]) rfl xS rfl) ?_|refine yAa (yAg rfl b3) ?_|refine yAa (yAg rfl b2) ?_|refine yAa (yAg rfl b1) ?_|refine yAa (yAg rfl b0) ?_)|refine yAQ ?_;refine yAa (yBW rfl rfl zO ht') ?_|refine yWf ?_;refine yAa (yFO rfl rfl) ?_|(refine yJ8 ?_;first|refine yAa (yDv rfl rfl zO s3) ?_|refine yAa (yDv rfl rfl zO s2) ?_|refine yAa (yDv rfl rfl zO s1) ?_)|refine yF5 ?_;refine yAa (yAe rfl rfl qk) ?_|refine xst ?_|refine xsa ?_;intro _|refine xsb ?_ ?_<;>intro _<;>try omega|refine xsc ?_|fail)
  ·have qk:decide (((r.length:Nat):Int)<229)=true:=zY zO
   have h5:Value.int .i64 (r.length:Nat)=.int .i64 ((ct:Nat):Int):=by rw [show ct=r.length by omega]
   have ht':r.take ((r.length:Nat):Int).toNat=r1:=by rw [hr1,zLe];exact List.take_eq_take_iff.2 zO
   repeat' (first|refine yFD (id:=0) ?_;refine KJ.asv 5 rfl h5 ?_;refine KJ.toRow (e:=9) (m:=1) (size:=1) xS (by rfl) (by unfold maxLen;omega) ?_;exact KJ.weak (rest _) xB (xN)|(refine yAF ?_;first|refine yAI rfl xF (by rfl) zO rfl (fun g2=>?_)|refine yJb (v0:=1) (v1:=c0) (v2:=c1) (v3:=c2) (v4:=c3) rfl rfl rfl rfl rfl rfl (fun g1=>?_))|(refine yEf ?_;first|refine yAa (yC4 (l:=[1,c0,c1,c2,c3]) rfl xS rfl) ?_|refine yAa (yAg rfl b3) ?_|refine yAa (yAg rfl b2) ?_|refine yAa (yAg rfl b1) ?_|refine yAa (yAg rfl b0) ?_)|refine yAQ ?_;refine yAa (yBW rfl rfl zO ht') ?_|refine yWf ?_;refine yAa (yFO rfl rfl) ?_|(refine yJ8 ?_;first|refine yAa (yDv rfl rfl zO s3) ?_|refine yAa (yDv rfl rfl zO s2) ?_|refine yAa (yDv rfl rfl zO s1) ?_)|refine yF5 ?_;refine yAa (yAe rfl rfl qk) ?_|refine xst ?_|refine xsa ?_;intro _|refine xsb ?_ ?_<;>intro _<;>try omega|refine xsc ?_|fail)
 intro g2
 refine yOL (by first|constructor|fail) ?_
 refine yOL (by first|constructor|fail) ?_
 refine yAz (fun i:{s:Nat × Nat × List (List UInt8) × Nat × Nat//s.2.2.1++yBi s.1 (r.drop s.2.1)=res∧s.2.1≤r.length∧r.length-s.2.1≤233*s.1∧s.2.2.1.length+s.1≤16777217}=>[(0,strV r),(3,.int .i64 (r.length:Nat)),(5,.int .i64 (i.1.2.1:Nat)),(6,.slice (some ⟨i.1.2.2.2.1,0,none⟩) i.1.2.2.1.length i.1.2.2.2.2)])
  (fun i=>[yAP (.slice (some ⟨i.1.2.2.2.1,0,none⟩) i.1.2.2.1.length i.1.2.2.2.2) 9 1 i.1.2.2.1.length (i.1.2.2.1.map strV)]++R) (fun i=>i.1.1) ⟨(r.length,ct,[[1,c0,c1,c2,c3]++r1],g2,1),hall,hctl,by dsimp only;omega,by dsimp only [List.length];omega⟩ xB (xN) (fun ⟨(f,k,acc,ga,ca),hr,hkn,hf,hal⟩=>?_)
 dsimp only at hr hkn hf hal ⊢
 by_cases hlt:k<r.length
 rotate_left
 ·have ql:decide (((k:Nat):Int)<(r.length:Nat))=false:=zZ zO
  rw [zLl zO,yCh,zLs] at hr
  subst hr
  repeat' (first|refine yFg ?_;refine yAa (yAc rfl rfl ql) ?_|refine xst ?_|refine xsa ?_;intro _|refine xsb ?_ ?_<;>intro _<;>try omega|refine xsc ?_|fail)
  all_goals (exact xdn (ga,ca))
 have ql:decide (((k:Nat):Int)<(r.length:Nat))=true:=zY zO
 obtain ⟨f',rfl⟩:∃ f',f=f'+1:=⟨f-1,zO⟩
 have hne:r.drop k≠[]:=fun e=>by
  have:=congrArg List.length e
  rw [zLf,List.length_nil] at this
  omega
 rw [yBY _ _ hne,List.drop_drop] at hr
 obtain ⟨m,hm⟩:∃ m,m=min (k+233) r.length:=⟨_,rfl⟩
 obtain ⟨q1,hq1⟩:∃ x,x=(r.drop k).take 233:=⟨_,rfl⟩
 have hq1l:q1.length≤233:=by rw [hq1,zLg];omega
 have hsl:(r.take m).drop k=q1:=by
  rw [hq1,List.take_drop,hm]
  congr 1
  exact List.take_eq_take_iff.2 zO
 have hdm:r.drop (k+233)=r.drop m:=by
  by_cases hh:k+233≤r.length
  ·rw [show m=k+233 by omega]
  ·rw [zLl zO,zLl zO]
 rw [← hq1,hdm] at hr
 clear hq1 hdm
 have em:acc.map strV++[strV (0::q1)]=(acc++[0::q1]).map strV:=zW
 have hsl':(r.take ((m:Nat):Int).toNat).drop ((k:Nat):Int).toNat=q1:=by rw [zLe,zLe];exact hsl
 have hz:∀ x:List UInt8,([0]:List UInt8)++x=0::x:=fun _=>rfl
 by_cases hg:k+233≤r.length
 ·have qg:decide (((r.length:Nat):Int)<((k+233:Nat):Int))=false:=zZ zO
  obtain rfl:m=k+233:=zO
  repeat' (first|refine yAH ?_;refine yCf (a2:=0) rfl rfl (by rfl) zO xS (Src.cells (i:=1) xS xC) (by rfl) zO xO zO zO rfl rfl (fun g5 c5=>?_)|refine yAF ?_;refine yAI rfl xF (by rfl) zO rfl (fun g3=>?_)|refine yAQ ?_;refine yAa (yBK rfl rfl rfl zO hsl') ?_|(refine yWf ?_;first|refine yAa (yFO rfl rfl) ?_|refine yAa (yAd (r:=((k+233:Nat):Int)) rfl rfl zO zO) ?_)|refine yFg ?_;refine yAa (yAc rfl rfl ql) ?_|refine yF5 ?_;refine yAa (yAe rfl rfl qg) ?_|refine xst ?_|refine xsa ?_;intro _|refine xsb ?_ ?_<;>intro _<;>try omega|refine xsc ?_|fail)
  refine yAp ⟨(f',k+233,acc++[0::q1],g5,c5),by dsimp only;rw [zLd];exact hr,by dsimp only;omega,by dsimp only;omega,by dsimp only;rw [zLa];show acc.length+1+f'≤_;omega⟩ (by show f'<f'+1;omega) ?_ ?_
  ·dsimp only
   rw [zLa]
   exact xB
  ·dsimp only
   rw [← em,zLa]
   exact (xN)
 ·have qg:decide (((r.length:Nat):Int)<((k+233:Nat):Int))=true:=zY zO
  obtain rfl:m=r.length:=zO
  repeat' (first|refine yAH ?_;refine yCf (a2:=0) rfl rfl (by rfl) zO xS (Src.cells (i:=1) xS xC) (by rfl) zO xO zO zO rfl rfl (fun g5 c5=>?_)|refine yAF ?_;refine yAI rfl xF (by rfl) zO rfl (fun g3=>?_)|refine yAQ ?_;refine yAa (yBK rfl rfl rfl zO hsl') ?_|(refine yWf ?_;first|refine yAa (yFO rfl rfl) ?_|refine yAa (yAd (r:=((k+233:Nat):Int)) rfl rfl zO zO) ?_)|refine yFg ?_;refine yAa (yAc rfl rfl ql) ?_|refine yF5 ?_;refine yAa (yAe rfl rfl qg) ?_|refine xst ?_|refine xsa ?_;intro _|refine xsb ?_ ?_<;>intro _<;>try omega|refine xsc ?_|fail)
  refine yAp ⟨(f',r.length,acc++[0::q1],g5,c5),by dsimp only;rw [zLd];exact hr,by dsimp only;omega,by dsimp only;omega,by dsimp only;rw [zLa];show acc.length+1+f'≤_;omega⟩ (by show f'<f'+1;omega) ?_ ?_
  ·dsimp only
   rw [zLa]
   exact xB
  ·dsimp only
   rw [← em,zLa]
   exact (xN)
end
end Go.Proofs.YtlnbkbfblhofbaaGreatDoor
