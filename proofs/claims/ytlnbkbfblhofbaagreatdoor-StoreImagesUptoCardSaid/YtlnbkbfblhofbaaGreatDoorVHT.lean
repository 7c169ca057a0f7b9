/-
  TxB, TxC, TxP3, TxL0, TxUB, StWE, StWF, SlX, Open14, TxH1, StWG, StWH, PoP, PoW4, WpW1, RgW2, RgV, TxS1, EndE.
-/
import Derived.Test.YtlnbkbfblhofbaaGreatDoorVFB
import Derived.Test.YtlnbkbfblhofbaaGreatDoorVED
import Derived.Test.YtlnbkbfblhofbaaGreatDoorVGO
import Derived.SizedLaws
set_option maxHeartbeats 64000000
namespace Go.Proofs.YtlnbkbfblhofbaaGreatDoor
open Go Go.RowKit
open Go.Proofs.Tryz
def yX7 (r:Rows) (k old:List UInt8) (there:Bool):Rows:=bif there then yE4 r k old else yF6 r k
structure TxKB (r0:Rows) (Rs:List Rows) (r:Rows) (m:Nat) (K:List (List UInt8 × Bool)) (U:List UE):Prop where
 ul:U.length=Rs.length
 um:U.length≤m
 kl:K.length≤m
 nd:(K.map (·.1)).Nodup
 ris:∀ x ∈ Rs++[r],RisR x
 all:∀ x ∈ Rs++[r],∀ k,lk x k≠lk r0 k→k ∈ K.map (·.1)
 undo:∀ i u x y,U[i]? = some u→(Rs++[r])[i]? = some x→(Rs++[r])[i+1]? = some y→yX7 y u.key u.old u.there=x
theorem TxKB.rr {r0:Rows} {Rs:List Rows} {r:Rows} {m:Nat} {K:List (List UInt8 × Bool)} {U:List UE} (h:TxKB r0 Rs r m K U):RisR r:=h.ris r zW
theorem yLJ {K:List (List UInt8 × Bool)} {k key:List UInt8} (h:k=key∨k ∈ K.map (·.1)):k ∈ (yL0 K key true).map (·.1):=by
 rw [mem_keys_lk,yR7]
 by_cases e:k=key
 ·rw [if_pos e];rfl
 ·rw [if_neg e]
  exact mem_keys_lk.1 (h.resolve_left e)
theorem TxKB.step {r0:Rows} {Rs:List Rows} {r r':Rows} {m:Nat} {K:List (List UInt8 × Bool)} {U:List UE} (h:TxKB r0 Rs r m K U) (e:UE) (hr':RisR r') (hk:∀ k,k≠e.key→lk r' k=lk r k) (hu:yX7 r' e.key e.old e.there=r) :
 TxKB r0 (Rs++[r]) r' (m+1) (yL0 K e.key true) (U++[e]):=by
 have hul:=h.ul
 refine ⟨by simp [hul],by rw [zLa];exact Nat.succ_le_succ h.um,Nat.le_trans (yPu _ _ _) (Nat.succ_le_succ h.kl),yHB h.nd _ _,fun x hx=>?_,fun x hx k hk'=>?_,fun i u x y h1 h2 h3=>?_⟩
 ·rcases List.mem_append.1 hx with hx|hx
  ·exact h.ris x hx
  ·rw [List.mem_singleton.1 hx];exact hr'
 ·rcases List.mem_append.1 hx with hx|hx
  ·exact yLJ (.inr (h.all x hx k hk'))
  ·rw [List.mem_singleton.1 hx] at hk'
   by_cases e1:k=e.key
   ·exact yLJ (.inl e1)
   ·rw [hk k e1] at hk'
    exact yLJ (.inr (h.all r zW k hk'))
 ·by_cases hi:i<U.length
  ·rw [zLp hi] at h1
   have l1:(Rs++[r]).length=U.length+1:=by simp [hul]
   rw [zLp zO] at h2 h3
   exact h.undo i u x y h1 h2 h3
  ·have hi2:i=U.length:=by
    have:=(zLc.1 h1).1
    rw [zLa,List.length_singleton] at this
    omega
   subst hi2
   have l1:(Rs++[r]).length=U.length+1:=by simp [hul]
   rw [zLn (Nat.le_refl _),Nat.sub_self] at h1
   rw [zLp zO,hul,zLn (Nat.le_refl _),Nat.sub_self] at h2
   rw [zLn zO,show U.length+1-(Rs++[r]).length=0 by omega] at h3
   simp only [List.getElem?_cons_zero,Option.some.injEq] at h1 h2 h3
   rw [← h1,← h2,← h3]
   exact hu
theorem TxKB.back {r0:Rows} {Rs:List Rows} {r x:Rows} {m:Nat} {K:List (List UInt8 × Bool)} {U:List UE} {u:UE} (h:TxKB r0 (Rs++[x]) r m K (U++[u])):yX7 r u.key u.old u.there=x∧TxKB r0 Rs x m K U:=by
 have hul:=h.ul
 simp only [zLa,List.length_singleton,Nat.add_right_cancel_iff] at hul
 have hum:=h.um
 rw [zLa,List.length_singleton] at hum
 refine ⟨h.undo U.length u x r zW (by rw [hul];simp) (by rw [hul];simp),hul,zO,h.kl,h.nd,fun y hy=>h.ris y (List.mem_append_left _ hy),fun y hy=>h.all y (List.mem_append_left _ hy),fun i v y z h1 h2 h3=>?_⟩
 have l1:=(zLc.1 h1).1
 refine h.undo i v y z (by rw [zLp l1];exact h1) ?_ ?_
 ·rw [zLp (by simp;omega)];exact h2
 ·rw [zLp (by simp;omega)];exact h3
theorem TxKB.k {r0:Rows} {Rs:List Rows} {r:Rows} {m:Nat} {K:List (List UInt8 × Bool)} {U:List UE} (h:TxKB r0 Rs r m K U):TxK r0 r m K U:=⟨h.um,h.kl,h.nd,h.all r zW⟩
section
variable {P:Program} {W:World} {f:FuncId} {args:List Value} {X:Type} {r:X→Value}
theorem Ct.frm {Hp:List SP} {H':X→List SP} (h:Ct P W f args Hp r H') (F:List SP):Ct P W f args (Hp++F) r (fun x=>H' x++F):=
 ⟨fun R w s=>(h.go (F++R) w (by rw [← zLd];exact s)).mono fun _ _ ⟨x,he,hs⟩=>⟨x,he,by rw [zLd];exact hs⟩⟩
end
def yDS {γ:Type} (w:γ→Nat) (l:List γ):Nat:=(l.map w).sum
theorem yDl {γ:Type} (w:γ→Nat) (x:γ) (l:List γ):yDS w (x::l)=w x+yDS w l:=by unfold yDS;rw [List.map_cons,List.sum_cons]
theorem yGu {γ:Type} (w:γ→Nat) (l m:List γ):yDS w (l++m)=yDS w l+yDS w m:=by unfold yDS;rw [List.map_append,List.sum_append]
theorem yJA {γ:Type} (w:γ→Nat) (p:γ→Bool) (l:List γ):yDS w (l.filter p)≤yDS w l:=by
 induction l with
 |nil=>exact Nat.le_refl _
 |cons x l ih=>
  rw [List.filter_cons,yDl]
  split
  ·rw [yDl];omega
  ·omega
theorem yPv {γ:Type} (w:γ→Nat) (f:γ→List UInt8) (l:List γ) (x:γ):yDS w (yO2 f l x)=yDS w l+w x:=by
 have h:yDS w l=yDS w (l.take (atB f l (f x)))+yDS w (l.drop (atB f l (f x))):=by rw [← yGu,zLu]
 rw [yLb,yGu,yGu,yDl,h]
 have:yDS w ([]:List γ)=0:=rfl
 omega
def yIj (p:List UInt8 × List UInt8):Nat:=(rowB p).length
theorem yJB {γ:Type} (g:γ→List UInt8) (l:List γ):(l.flatMap g).length=yDS (fun x=>(g x).length) l:=by
 induction l with
 |nil=>rfl
 |cons x l ih=>rw [zLr,zLa,ih,yDl]
theorem yFV (r:Rows):(yAh r).length=(vu r.length).length+yDS yIj r:=by unfold yAh;rw [zLa,yJB];rfl
theorem yVy {r:Rows} (hr:RisR r) (k v:List UInt8):yE4 r k v=yO2 Prod.fst (yF6 r k) (k,v):=by
 have h1:=yLe hr k
 have h2:yJY Prod.fst (yF6 r k) k=false:=hasB_false.2 fun x hx e=>by
  have:=(List.mem_filter.1 hx).2
  simp at this
  exact this e
 have h3:yE4 (yF6 r k) k v=yO2 Prod.fst (yF6 r k) (k,v):=by unfold yE4;rw [h2];rfl
 rw [← h3]
 refine yGP (yCm hr k v) (yCm h1 k v) fun y=>?_
 rw [yEL hr,yEL h1,yY5]
 by_cases e:y=k
 ·rw [if_pos e,if_pos e]
 ·rw [if_neg e,if_neg e,if_neg e]
theorem yTj {r:Rows} (hr:RisR r) (k v:List UInt8):yDS yIj (yE4 r k v)≤yDS yIj r+yIj (k,v):=by
 rw [yVy hr,yPv]
 have:yDS yIj (yF6 r k)≤yDS yIj r:=yJA _ _ _
 omega
theorem yX8 (r:Rows) (k:List UInt8):yDS yIj (yF6 r k)≤yDS yIj r:=yJA _ _ _
theorem yZx {n:Nat} (h:n<16384):(vu n).length≤2:=by
 unfold vu vuF
 split
 ·simp
 ·unfold vuF
  split
  ·simp
  ·omega
def opW (o:BOp):Nat:=(yDw o).length
theorem yX9 (l:List BOp):(yBN l).length=(vu l.length).length+yDS opW l:=by unfold yBN yDR;rw [zLa,yJB];rfl
theorem yYa (o:BOp):opW o.nrm=opW o:=by
 obtain ⟨d,k,v⟩:=o
 cases d <;> rfl
theorem yVz (l:List BOp):yDS opW (yA1 l)≤yDS opW l:=by
 induction l with
 |nil=>exact Nat.le_refl _
 |cons o r ih=>
  rw [yDl]
  unfold yA1
  split
  ·omega
  ·rw [yPv,yYa];omega
structure LightI (l:Rows):Prop where
 short:∀ p ∈ l,p.1.length≤8192∧p.2.length≤8192
 sum:yDS yIj l≤8192
 len:l.length≤1024
theorem yYb (l:Rows):yDS yIj (ofR l)≤yDS yIj l∧RisR (ofR l):=by
 have key:∀ (l r:Rows),RisR r→yDS yIj (l.foldl (fun r p=>yE4 r p.1 p.2) r)≤yDS yIj r+yDS yIj l∧RisR (l.foldl (fun r p=>yE4 r p.1 p.2) r):=by
  intro l
  induction l with
  |nil=>intro r hr;exact ⟨Nat.le_refl _,hr⟩
  |cons p l ih=>
   intro r hr
   obtain ⟨h1,h2⟩:=ih (yE4 r p.1 p.2) (yCm hr _ _)
   have h3:=yTj hr p.1 p.2
   have e:yIj (p.1,p.2)=yIj p:=rfl
   rw [e] at h3
   rw [yDl]
   exact ⟨by rw [List.foldl_cons];omega,h2⟩
 obtain ⟨h1,h2⟩:=key l [] List.Pairwise.nil
 have:yDS yIj ([]:Rows)=0:=rfl
 rw [this,zLq] at h1
 exact ⟨h1,h2⟩
theorem LightI.snap {l:Rows} (h:LightI l):(yAh (ofR l)).length≤8194∧(ofR l).length≤1024:=by
 have h1:=(yYb l).1
 have h2:=h.sum
 have h3:=yS5 l []
 have h4:=h.len
 have h5:(ofR l).length≤1024:=by
  show (l.foldl _ []).length≤_
  have:([]:Rows).length=0:=rfl
  omega
 have h6:=yZx (n:=(ofR l).length) zO
 exact ⟨by rw [yFV];omega,h5⟩
theorem yKy {r:Rows} (hr:RisR r) (S:List BOp):yDS yIj (yAJ r S)≤yDS yIj r+yDS opW S:=by
 induction S generalizing r with
 |nil=>exact Nat.le_refl _
 |cons o S ih=>
  have h1:=ih (yKd hr o)
  have h2:yDS yIj (yFj r o)≤yDS yIj r+opW o:=by
   unfold yFj
   split
   ·have:=yX8 r o.key;omega
   ·rename_i hd
    have h3:=yTj hr o.key o.val
    have h4:yIj (o.key,o.val)≤opW o:=by
     unfold yIj rowB opW yDw
     rw [if_neg hd]
     simp
    omega
  rw [yDl]
  show yDS yIj (yAJ (yFj r o) S)≤_
  omega
def yTk (Rs:List Rows) (r:Rows) (j:Nat):Rows:=((Rs++[r])[j]?).getD []
theorem yTl {Rs:List Rows} {r:Rows} {j:Nat} (h:j≤Rs.length):(Rs++[r])[j]? = some (yTk Rs r j):=by
 unfold yTk
 rw [zLb (by rw [zLa,List.length_singleton];omega)]
 rfl
theorem yQI {Rs:List Rows} {r:Rows} {j:Nat} (h:j≤Rs.length):Rs.take j++[yTk Rs r j]=(Rs++[r]).take (j+1):=by
 rw [List.take_add_one,yTl h,List.take_append_of_le_length h]
 rfl
theorem TxKB.cut {r0:Rows} {Rs:List Rows} {r:Rows} {m j:Nat} {K:List (List UInt8 × Bool)} {U:List UE} (h:TxKB r0 Rs r m K U) (hj:j≤Rs.length):TxKB r0 (Rs.take j) (yTk Rs r j) m K (U.take j):=by
 have hul:=h.ul
 have hum:=h.um
 have ht:=yQI (r:=r) hj
 have hin:∀ x ∈ Rs.take j++[yTk Rs r j],x ∈ Rs++[r]:=fun x hx=>by
  rw [ht] at hx
  exact List.mem_of_mem_take hx
 refine ⟨by rw [zLg,zLg,hul],by rw [zLg];omega,h.kl,h.nd,fun x hx=>h.ris x (hin x hx),fun x hx=>h.all x (hin x hx),fun i u x y h1 h2 h3=>?_⟩
 have hi:i<j:=by
  have:=(zLc.1 h1).1
  rw [zLg] at this
  omega
 rw [List.getElem?_take_of_lt hi] at h1
 rw [ht,List.getElem?_take_of_lt zO] at h2 h3
 exact h.undo i u x y h1 h2 h3
def yYc (n:Nat) (r:Rows):Dsk:=yDU (Dsk.blank n) n 1 r
section
variable {W:World} {F:Nat→Addr} {r:Rows} {d n:Nat}
theorem yVA (hE:ErrsOn L16 W F) (hE8:ErrsOn L8 W F) (hN:NibAt W) (h1:64≤n) (h2:n≤4096) (A:SP) (oa:Option Addr) (oc:Nat) (ops:List BOp) (hL:Lv W opC 3 A oa ops) (ho:ops.length≤100000000) (hr:yAJ [] ops=r) (hsn:(yAh r).length≤234*yAu n) :
 CtU prog W 12 [zPp d,.slice oa ops.length oc] [A,DiskP d (Dsk.blank n)] .nilIface [A,DiskP d (yYc n r)]:=yOp hE hE8 hN h1 zO A oa oc ops hL ho r hr hsn
end
section
variable {W:World} {F:Nat→Addr} {r:Rows} {s n k:Nat}
theorem StI.len {m:Nat} {x:StH} (h:StI n m r x) (h2:n≤65536):r.length≤10000000:=by
 have h1:=yCB r
 have h3:=yFV r
 have h4:=h.room
 have hA:=yA8 h2
 have h5:(yAh r).length=(vu r.length).length+(r.flatMap rowB).length:=by unfold yAh;rw [zLa]
 omega
end
section
variable {P:Program} {W:World} {n d:Nat} {E:Env} {H H' R:List SP} {k:KK} {t u e:TypeId} {x y z:Operand} {α:Type} {enc:α→List Value} {sz:Nat}
structure SlOk (a:Option Addr) (c n:Nat):Prop where
 nil:a=none→c=0
 le:n≤c
theorem SlOk.zero:SlOk none 0 0:=⟨fun _=>rfl,Nat.le_refl _⟩
theorem SlOk.some {g:Addr} {c n:Nat} (h:n≤c):SlOk (some g) c n:=⟨fun e=>(by cases e),h⟩
end
section
open Go Go.RowKit Go.ChangeShapes Go.WideShapes Go.Deep
theorem yKz:prog.cellsOf 9=1:=zK
end
instance yZ8:StIs prog 62:=⟨zK,zK⟩
theorem yTm (x y:List UInt8 × List UInt8) {fs:Array Field} (hu:prog.underlying 62=some (.struct fs)):EqF prog (rC x) (rC y) fs.toList (decide (x=y)):=by
 have e:=underlying62.symm.trans hu
 simp only [Option.some.injEq,TypeDesc.struct.injEq] at e
 subst e
 have e2:decide (x=y)=(decide (x.1=y.1) && (decide (x.2=y.2) && true)):=by
  rw [Bool.eq_iff_iff]
  cases x;cases y
  simp
 rw [e2]
 refine EqF.cons rfl inferInstance rfl rfl ?_ (EqF.cons rfl inferInstance rfl rfl ?_ EqF.nil)
 all_goals (unfold yKg;simp)
section
variable {W:World} {F:Nat→Addr} {d n:Nat} {D:Dsk}
theorem yJC (hE:ErrsOn L16 W F) (hE8:ErrsOn L8 W F) (hN:NibAt W) (h1:64≤n) (h2:n≤65536) (hn:D.n=n) (ho:D.off=false) (hs:yA9 D 0=0) (A:SP) (oa:Option Addr) (oc m:Nat) :
 CtU prog W 12 [zPp d,.slice oa m oc] [A,DiskP d D] (yAr F 21) [A,DiskP d D]:=by
 have e21:W.cell? ⟨3,0,none⟩=some (yAr F 21):=hE.at_ 21 zX
 have cr:CtU prog W 27 [zPp d,.int .i64 0] [DiskP d D] (.tuple #[strV (yBt D 0),.int .i64 (yBC D 0),.nilIface]) [DiskP d D]:=by
  have:=yCE (W:=W) (p:=d) (D:=D) hE8 hN zO 0
  rw [hs] at this
  exact this
 have csz:CtU prog W 25 [zPp d] [DiskP d D] (.int .i64 (n:Nat)) [DiskP d D]:=by
  have:=yBs (W:=W) (p:=d) (D:=D)
  rw [hn] at this
  exact this
 have cof:CtU prog W 26 [zPp d] [DiskP d D] (.bool false) [DiskP d D]:=by
  have:=yD5 (W:=W) (p:=d) (D:=D)
  rw [ho] at this
  exact this
 have q1:decide ((n:Int)<64)=false:=zZ zO
 refine Ct.enter func12 rfl ntmps12 zW (fun R=>?_)
 repeat' (first|(refine yAb ?_;first|refine xca cr fun _=>?_|refine xca cof fun _=>?_|refine xca csz fun _=>?_)|refine yAj ?_;refine yAa (yAn rfl e21) ?_|refine yAa (yAc rfl rfl q1) ?_|refine xst ?_|refine xsa ?_;intro _|refine xsb ?_ ?_<;>intro _<;>try omega|refine xsc ?_|exact xdn ()|fail)
end
theorem RdyS.slot0 {n v:Nat} {D:Dsk} (h:RdyS n v D) (h1:64≤n) (hv:1≤v):yA9 D 0=0:=by
 obtain ⟨l,hl⟩:=h.slot
 have hn:=h.nn
 have ht:=Holds.told h.rest (a:=0) zO hl
 rw [if_neg zO] at ht
 exact ht.1
section
variable {W:World} {F:Nat→Addr} {r:Rows} {d n:Nat}
theorem yVB (hE:ErrsOn L16 W F) (hE8:ErrsOn L8 W F) (hN:NibAt W) (h1:64≤n) (h2:n≤65536) (hr:RisR r) (hsn:(yAh r).length≤234*yAu n) :
 Ct prog W 18 [zPp d] [DiskP d (yYc n r)] (fun y:Nat × {x:StH//StI n 2 r x∧x.d=d∧x.v=2∧x.used=0∧x.D=yDU (yYc n r) n 2 r}=>.tuple #[.pointer (some ⟨y.1,0,none⟩),.nilIface]) (fun y=>stL y.1 n y.2.1):=by
 obtain ⟨g1,g2,g3,g4,g5,g6,g7,g8⟩:=(Ready.blank h1 (show n≤65536 by omega)).fold r h1 zO zO hsn
 obtain ⟨k1,k2,k3,k4,k5,k6,k7,k8⟩:=g3.ready.fold r h1 zO zO hsn
 have hc:=yTb (W:=W) (F:=F) (d:=d) (D:=yYc n r) hE hE8 hN h1 zO hr hsn 1 ⟨zO,zO⟩ g3
 have e:(yDU (yYc n r) n (1+1) r).life=(yYc n r).life:=k4
 refine hc.to (fun x=>(x.1,⟨⟨d,x.2.1.1,x.2.2,2,0,yDU (yYc n r) n (1+1) r,x.2.1.2.1.1,x.2.1.2.1.2.1,x.2.1.2.1.2.2⟩,⟨k3.s,by dsimp only;omega,by dsimp only;omega,by dsimp only;omega,x.2.1.2.2.2,hsn⟩,rfl,rfl,rfl,rfl⟩)) (fun _=>rfl) (fun x R g q=>?_)
 unfold stL
 dsimp only
 rw [e]
 rw [e] at q
 exact q
end
def rup (most:Nat) (l:List UInt8):Rd Nat:=match ru l with
 |.bad e=>.bad e
 |.ok n t=>if most<n then .bad 3 else .ok n t
theorem yZy (m:Nat):IntKind.u8.wrap ((m:Nat):Int)=((UInt8.ofNat m).toNat:Int):=by
 simp only [IntKind.wrap,IntKind.signed,IntKind.bits,UInt8.toNat_ofNat']
 simp
section
variable {P:Program} {W:World} {n:Nat} {E:Env} {H:List SP} {t u:TypeId} {x y:Operand} {kd:IntKind}
theorem yVC {i j:Int} {r:Nat} (hx:Env.ev E x=some (.int kd i)) (hy:Env.ev E y=some (.int kd j)) (hb:0≤i∧0<j) (h:i / j=(r:Int)) (hw:kd.wrap ((r:Nat):Int)=(r:Int)):Ev P W n E H (.binOp .quo t x y u) (.int kd ((r:Nat):Int)):=by
 have e:kd.wrap (i.tdiv j)=((r:Nat):Int):=by rw [Int.tdiv_eq_ediv_of_nonneg hb.1,h,hw]
 rw [← e]
 exact yRv hx hy zO
end
section
variable {W:World} {N:List Nd} {a:Option Addr} {t:Tr} {lo hi:List UInt8} {m lp:Nat} {J S:Nat→SP} {x:Nat × Nat × Nat}
structure RgOk (N:List Nd) (a:Option Addr) (t:Tr) (lo hi:List UInt8) (m:Nat):Prop where
 at_:TrAt N a t
 le:m≤(t.frm lo).length
 yes:∀ i p,(t.frm lo)[i]? = some p→i<m→Op.bytesLess p.1 hi=true
 no:∀ p,(t.frm lo)[m]? = some p→Op.bytesLess p.1 hi=false
end
theorem RgOk.mono {N M:List Nd} {a:Option Addr} {t:Tr} {lo hi:List UInt8} {m:Nat} (h:RgOk N a t lo hi m) (hs:∀ x ∈ N,x ∈ M):RgOk M a t lo hi m:=⟨h.at_.mono hs,h.le,h.yes,h.no⟩
theorem Lv.all {W:World} {α:Type} {enc:α→List Value} {sz key:Nat} {A:SP} {L L':List SP} {a:Option Addr} {l:List α} (h:Lv W enc sz A a l) (hx:Sel A L L'):Lv W enc sz (yWw key L) a l:=
 ⟨fun w _ R hs s hne=>h.go w (L++R) (L'++R) (hx.app R) ((s.perm hs.perm).mono (fun _ q=>yG9 q)) hne⟩
theorem ErrsOn.sub {S T:List Nat} {W:World} {F:Nat→Addr} (h:ErrsOn S W F) (hs:∀ k,k ∈ T→k ∈ S):ErrsOn T W F:=
 ⟨fun k hk=>h.at_ k (hs k hk),fun k hk=>h.obj k (hs k hk),fun j k hj hk=>h.inj j k (hs j hj) (hs k hk),fun k hk=>h.pos k (hs k hk)⟩
end Go.Proofs.YtlnbkbfblhofbaaGreatDoor
