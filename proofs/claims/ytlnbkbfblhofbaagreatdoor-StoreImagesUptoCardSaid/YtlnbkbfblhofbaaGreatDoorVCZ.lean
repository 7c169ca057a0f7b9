/-
  RuP, RdW1, RdW2.
-/
import Derived.Test.YtlnbkbfblhofbaaGreatDoorVEE
set_option maxHeartbeats 64000000
namespace Go.Proofs.YtlnbkbfblhofbaaGreatDoor
open Go Go.RowKit
open Go.Proofs.Tryz
abbrev yZl:Pl:=(.op 0 (.op 1 (.op 2 (.op 3 (.op 4 (.op 5 (.op 6 (.op 7 (.op 8 (.op 9 (.op 10 .nil)))))))))))
abbrev yBz:Pl:=(.op 0 (.op 1 (.op 2 .nil)))
abbrev yG7:Pl:=(.op 0 (.op 1 (.op 2 (.op 3 (.op 4 (.op 5 (.op 6 (.op 7 (.op 8 (.op 9 (.op 10 (.op 11 .nil))))))))))))
abbrev yPi:Pl:=(.op 0 (.op 1 (.op 2 (.op 3 (.op 4 (.op 5 (.op 6 (.op 7 (.op 8 (.op 9 (.op 10 (.op 11 (.op 12 (.op 13 (.op 14 (.op 15 (.op 16 (.ef 17 [] .nil))))))))))))))))))
structure AndF (kd:IntKind) (i j y:Int):Prop where
 h:bits .and kd i j=y
theorem yER {P:Program} {W:World} {n:Nat} {E:Env} {H:List SP} {t u:TypeId} {x y:Operand} {kd:IntKind} {i j r:Int} (hx:Env.ev E x=some (.int kd i)) (hy:Env.ev E y=some (.int kd j)) (h:AndF kd i j r):Ev P W n E H (.binOp .and t x y u) (.int kd r):=by
 have q:=h.h
 subst q
 exact yWl hx hy
structure ShlF (kd:IntKind) (i s y:Int):Prop where
 h0:0≤s
 h:kd.wrap (i*2 ^ (min s.toNat kd.bits))=y
theorem yBk {P:Program} {W:World} {n:Nat} {E:Env} {H:List SP} {t u:TypeId} {x y:Operand} {kd yk:IntKind} {i j r:Int} (hx:Env.ev E x=some (.int kd i)) (hy:Env.ev E y=some (.int yk j)) (h:ShlF kd i j r):Ev P W n E H (.binOp .shl t x y u) (.int kd r):=by
 have q:=h.h
 subst q
 exact yRA hx hy h.h0
theorem yJi (b:UInt8):AndF .u8 (b.toNat:Int) 127 ((b.toNat % 128:Nat):Int):=by
 refine ⟨?_⟩
 have key:∀ y:Fin 256,bits .and .u8 ((y.val:Nat):Int) 127=((y.val % 128:Nat):Int):=by decide +kernel
 exact key ⟨b.toNat,zLy b⟩
theorem yKo (y i:Nat) (hi:i≤9) (hy:y*2 ^ (7*i)<18446744073709551616):ShlF .u64 (y:Int) ((7*i:Nat):Int) ((y*2 ^ (7*i):Nat):Int):=by
 refine ⟨zO,?_⟩
 have hm:min ((7*i:Nat):Int).toNat IntKind.u64.bits=7*i:=by
  show min ((7*i:Nat):Int).toNat 64=7*i
  omega
 rw [hm]
 have e2:((y:Int)*2 ^ (7*i))=((y*2 ^ (7*i):Nat):Int):=zW
 rw [e2]
 exact yAo _ hy
theorem or7 (x y i:Nat) (hx:x<2 ^ (7*i)) (hs:y*2 ^ (7*i)+x<18446744073709551616):OrF .u64 (x:Int) ((y*2 ^ (7*i):Nat):Int) ((x+y*2 ^ (7*i):Nat):Int):=by
 refine ⟨?_⟩
 obtain ⟨z,hz⟩:∃ z,z=y*2 ^ (7*i):=⟨_,rfl⟩
 have hor:x ||| z=x+z:=by rw [hz,Nat.or_comm,Nat.mul_comm,← Nat.two_pow_add_eq_or_of_lt hx,Nat.add_comm]
 rw [← hz] at hs ⊢
 have e:bits .or .u64 (x:Int) (z:Int)=IntKind.u64.wrap ((BitVec.ofInt 64 (x:Int) ||| BitVec.ofInt 64 (z:Int)).toNat:Int):=rfl
 have b1:(BitVec.ofInt 64 (x:Int)).toNat=x:=by rw [BitVec.toNat_ofInt];omega
 have b2:(BitVec.ofInt 64 (z:Int)).toNat=z:=by rw [BitVec.toNat_ofInt];omega
 rw [e,BitVec.toNat_or,b1,b2,hor]
 exact yAo _ zO
structure RuI (l:List UInt8) (i x:Nat):Prop where
 go:ruG (l.drop i) i x=ru l
 i9:i≤9
 x7:x<2 ^ (7*i)
 il:i≤l.length
theorem RuI.start (l:List UInt8):RuI l 0 0:=⟨rfl,zO,by simp,zO⟩
theorem yIx {l:List UInt8} {i:Nat} {b:UInt8} (hb:l[i]? = some b):l.drop i=b::l.drop (i+1):=by
 obtain ⟨h1,h2⟩:=zLc.1 hb
 rw [List.drop_eq_getElem_cons h1,h2]
section
variable {l:List UInt8} {i x:Nat} {b:UInt8}
theorem RuI.short (h:RuI l i x) (hi:l.length≤i):ru l=.bad 1:=by
 rw [← h.go,zLl hi];rfl
theorem RuI.bad (h:RuI l i x) (hb:l[i]? = some b) (hc:i=9∧1<b.toNat):ru l=.bad 2:=by
 rw [← h.go,yIx hb];unfold ruG;rw [if_pos hc]
theorem RuI.nought (h:RuI l i x) (hb:l[i]? = some b) (h0:b.toNat=0) (hi:0<i):ru l=.bad 2:=by
 rw [← h.go,yIx hb];unfold ruG;rw [if_neg zO,if_pos zO,if_pos ⟨h0,hi⟩]
theorem RuI.done (h:RuI l i x) (hb:l[i]? = some b) (hn:¬ (i=9∧1<b.toNat)) (hs:b.toNat<128) (h0:¬ (b.toNat=0∧0<i)):ru l=.ok (x+b.toNat % 128*2 ^ (7*i)) (l.drop (i+1)):=by
 rw [← h.go,yIx hb];unfold ruG;rw [if_neg hn,if_pos hs,if_neg h0,Nat.mod_eq_of_lt hs]
theorem RuI.fit (h:RuI l i x) (hn:¬ (i=9∧1<b.toNat)):b.toNat % 128*2 ^ (7*i)+x<18446744073709551616:=by
 have hx:=h.x7
 have h9:=h.i9
 have hbb:=zLy b
 by_cases e:i=9
 ·subst e
  have:b.toNat % 128≤1:=zO
  have:=zLt (2 ^ (7*9)) this
  omega
 ·have:b.toNat % 128≤127:=by omega
  have:=zLt (2 ^ (7*i)) this
  have:(2:Nat) ^ (7*i)≤2 ^ (7*8):=Nat.pow_le_pow_right zO zO
  omega
theorem RuI.next (h:RuI l i x) (hb:l[i]? = some b) (hn:¬ (i=9∧1<b.toNat)) (hs:¬ b.toNat<128):RuI l (i+1) (x+b.toNat % 128*2 ^ (7*i)):=by
 have h1:=(zLc.1 hb).1
 have h9:=h.i9
 refine ⟨?_,zO,?_,zO⟩
 ·rw [← h.go,yIx hb]
  conv=>rhs;unfold ruG
  rw [if_neg hn,if_neg hs]
 ·have hx:=h.x7
  have:b.toNat % 128≤127:=zO
  have:=zLt (2 ^ (7*i)) this
  have e:(2:Nat) ^ (7*(i+1))=128*2 ^ (7*i):=by rw [Nat.mul_add,Nat.pow_add,Nat.mul_comm]
  omega
theorem RuI.len {z:Nat} {j:Nat} (h:ru l=.ok z (l.drop j)) (hj:j≤l.length):(vu z).length=j:=by
 have:=congrArg List.length (yGO h).1
 rw [zLa,zLf] at this
 omega
end
theorem yCX {s t:List UInt8} {a x:Nat} (h:ru (s.drop a)=.ok x t):t=s.drop (a+(vu x).length):=by
 have e:=(yGO h).1
 rw [← List.drop_drop,e,List.drop_left]
theorem yEc {s t:List UInt8} {a x:Nat} (h:ru (s.drop a)=.ok x t):a+(vu x).length≤s.length:=by
 have e:=congrArg List.length (yGO h).1
 have p:=yB9 x
 rw [zLa,zLf] at e
 omega
theorem yDy {s t y:List UInt8} {m a:Nat} (h:rtx m (s.drop a)=.ok y t):t=s.drop (a+(tx y).length):=by
 have e:=(yKb h).1
 rw [← List.drop_drop,e,List.drop_left]
theorem yES {s t y:List UInt8} {m a:Nat} (h:rtx m (s.drop a)=.ok y t):a+(tx y).length≤s.length:=by
 have e:=congrArg List.length (yKb h).1
 have p:=yIh y
 rw [zLa,zLf] at e
 omega
theorem ySY {s t:List UInt8} {f:Bool} {last:List UInt8} {o:BOp} {a:Nat} (h:yHs f last (s.drop a)=.ok o t):t=s.drop (a+(yDw o).length):=by
 have e:=(yJd h).1
 rw [← List.drop_drop,e,List.drop_left]
theorem yJj (o:BOp):2≤(yDw o).length:=by
 have:=yIh o.key
 have:=yIh o.val
 unfold yDw
 split <;> simp only [zLj,zLa] <;> omega
theorem yVh {s t:List UInt8} {f:Bool} {last:List UInt8} {o:BOp} {a:Nat} (h:yHs f last (s.drop a)=.ok o t):a+(yDw o).length≤s.length:=by
 have e:=congrArg List.length (yJd h).1
 have p:=yJj o
 rw [zLa,zLf] at e
 omega
theorem ySZ:∀ (l:List UInt8) (i acc e:Nat),ruG l i acc=.bad e→e=1∨e=2
 |[],_,_,_,h=>by cases h;exact .inl rfl
 |b::t,i,acc,e,h=>by
  unfold ruG at h
  split at h
  ·cases h;exact .inr rfl
  split at h
  ·split at h
   ·cases h;exact .inr rfl
   ·cases h
  ·exact ySZ t _ _ e h
theorem yC2 {l:List UInt8} {e:Nat} (h:ru l=.bad e):e=1∨e=2:=ySZ l 0 0 e h
theorem yEj {m:Nat} {l:List UInt8} {e:Nat} (h:rtx m l=.bad e):e=1∨e=2∨e=3:=by
 unfold rtx at h
 split at h
 ·rename_i e' he
  cases h
  rcases yC2 he with q|q <;> omega
 split at h
 ·cases h;omega
 split at h
 ·cases h;omega
 ·cases h
theorem yLz {f:Bool} {last l:List UInt8} {e:Nat} (h:yHs f last l=.bad e):e=1∨e=2∨e=3∨e=4∨e=7:=by
 unfold yHs at h
 split at h
 ·cases h;omega
 split at h
 ·cases h;omega
 split at h
 ·rename_i he
  cases h
  rcases yEj he with q|q|q <;> omega
 split at h
 ·cases h;omega
 split at h
 ·cases h
 split at h
 ·rename_i he
  cases h
  rcases yEj he with q|q|q <;> omega
 ·cases h
abbrev rdP (p:Nat) (s:List UInt8) (a:Nat):SP:=yAi p [strV s,.int .i64 (a:Nat)] 203
def rdE {α:Type}:Rd α→Nat
 |.bad e=>e
 |.ok _ _=>0
def rdN:Rd Nat→Nat
 |.bad _=>0
 |.ok x _=>x
def rdL:Rd Nat→Nat
 |.bad _=>0
 |.ok x _=>(vu x).length
section
variable {W:World} {F:Nat→Addr} {p:Nat} {s:List UInt8} {a:Nat}
theorem yDb (s:List UInt8):Ct prog W 84 [strV s] [] (fun p:Nat=>(zPp p)) (fun p=>[rdP p s 0]):=by
 refine Ct.enter func84 rfl ntmps84 zW (fun R=>?_)
 repeat' (first|refine yA4 ?_;refine yA3 rfl xF rfl (fun g=>?_)|refine yAB ?_;refine yAa (yAC xV xW) ?_|refine xst ?_|refine xsa ?_;intro _|refine xsb ?_ ?_<;>intro _<;>try omega|refine xsc ?_|fail)
 all_goals (exact xdn g)
theorem yFQ (ha:a≤s.length) (hs:s.length≤9223372036854775807):CtU prog W 130 [zPp p] [rdP p s a] (.int .i64 (s.length-a:Nat)) [rdP p s a]:=by
 refine Ct.enter func130 rfl ntmps130 zW (fun R=>?_)
 repeat' (first|refine yAa (yBG (r:=((s.length-a:Nat):Int)) rfl rfl zO zO) ?_|refine xst ?_|refine xsa ?_;intro _|refine xsb ?_ ?_<;>intro _<;>try omega|refine xsc ?_|refine xdr 1 yZl ?_|refine xsd ?_ ?_|exact Rech.nil|exact xdn ()|fail)
theorem yDz (ha:a≤s.length) (hs:s.length≤9223372036854775807) (e1:W.cell? ⟨7,0,none⟩=some (yAr F 1)) (e2:W.cell? ⟨8,0,none⟩=some (yAr F 2)) (q:Rd Nat) (hq:ru (s.drop a)=q) :
 CtU prog W 85 [zPp p] [rdP p s a] (.tuple #[.int .u64 (rdN q:Nat),yAr F (rdE q)]) [rdP p s (a+rdL q)]:=by
 have cl:=yFQ (W:=W) (p:=p) (s:=s) (a:=a) ha zO
 have hdl:(s.drop a).length=s.length-a:=zLf
 refine Ct.enter func85 rfl ntmps85 zW (fun R=>?_)
 repeat' (first|refine xst ?_|refine xsa ?_;intro _|refine xsb ?_ ?_<;>intro _<;>try omega|refine xsc ?_|refine xdr 5 yBz ?_|refine xdr 6 yG7 ?_|refine xdr 8 yBz ?_|refine xdr 12 yBz ?_|refine xsd ?_ ?_|exact Rech.nil|fail)
 refine yAz (fun i:{i:Nat × Nat//RuI (s.drop a) i.1 i.2}=>[(0,zPp p),(4,.int .u64 (i.1.2:Nat)),(5,.int .i64 (i.1.1:Nat))])
  (fun i=>[rdP p s a]++R) (fun i=>10-i.1.1) ⟨(0,0),RuI.start _⟩ xB (xN) (fun ⟨(i,x),hi⟩=>?_)
 dsimp only at hi ⊢
 have i9:=hi.i9
 have hil:=hi.il
 by_cases hend:i=s.length-a
 ·have hbad:=hi.short zO
  rw [hq] at hbad
  have qe:decide ((i:Int)=((s.length-a:Nat):Int))=true:=zY zO
  repeat' (first|refine yAb ?_;refine xca cl fun _=>?_|refine yAj ?_;refine yAa (yAn rfl e1) ?_|refine yAa (yAf rfl rfl qe) ?_|refine xst ?_|refine xsa ?_;intro _|refine xsb ?_ ?_<;>intro _<;>try omega|refine xsc ?_|refine xdr 5 yBz ?_|refine xdr 6 yG7 ?_|refine xdr 8 yBz ?_|refine xdr 12 yBz ?_|refine xsd ?_ ?_|exact Rech.nil|fail)
  all_goals exact xdn () (hc:=by rw [hbad];rfl) (hE:=by rw [show a+rdL q=a by rw [hbad];rfl];exact (xN))
 have qe:decide ((i:Int)=((s.length-a:Nat):Int))=false:=zZ zO
 obtain ⟨b,hb⟩:∃ b,(s.drop a)[i]? = some b:=⟨_,zLb zO⟩
 have hbs:s[a+i]? = some b:=by rw [← hb,zLC]
 have hbt:=zLy b
 have hcase:(i=9∧1<b.toNat)∨(i=9∧b.toNat=0)∨(i=9∧b.toNat=1)∨(i≠9∧b.toNat=0∧0<i)∨(i≠9∧b.toNat=0∧i=0)∨(i≠9∧0<b.toNat∧b.toNat<128)∨(i≠9∧¬ b.toNat<128):=zO
 rcases hcase with h9|h9|h9|h9|h9|h9|h9
 ·have hbad:=hi.bad hb h9
  rw [hq] at hbad
  have q9:decide ((i:Int)=9)=true:=zY zO
  have qb:decide ((1:Int)<(b.toNat:Int))=true:=zY zO
  repeat' (first|refine yAb ?_;refine xca cl fun _=>?_|refine yAj ?_;refine yAa (yAn rfl e2) ?_|refine yAa (yAg rfl c1) ?_|refine yAa (yAk rfl rfl zO hbs) ?_|refine yAa (yAd (r:=((a+i:Nat):Int)) rfl rfl zO zO) ?_|refine yAa (yAd (r:=((a+(i+1):Nat):Int)) rfl rfl zO zO) ?_|refine yAa (yAd (r:=((i+1:Nat):Int)) rfl rfl zO zO) ?_|refine yAa (yAG (r:=((7*i:Nat):Int)) rfl rfl zO zO) ?_|refine yH6 ?_;refine yAa (yER rfl rfl (yJi b)) ?_|refine yAa (yCj rfl rfl orr) ?_|refine yAa (yBk rfl rfl sh) ?_|refine yAa (yAf rfl rfl qe) ?_|refine yAa (yAf rfl rfl q9) ?_|refine yAa (yAf rfl rfl q0) ?_|refine yAa (yAc rfl rfl ql) ?_|refine yAa (yAe rfl rfl qb) ?_|refine xst ?_|refine xsa ?_;intro _|refine xsb ?_ ?_<;>intro _<;>try omega|refine xsc ?_|refine xdr 5 yBz ?_|refine xdr 6 yG7 ?_|refine xdr 8 yBz ?_|refine xdr 12 yBz ?_|refine xsd ?_ ?_|exact Rech.nil|fail)
  all_goals exact xdn () (hc:=by rw [hbad];rfl) (hE:=by rw [show a+rdL q=a by rw [hbad];rfl];exact (xN))
 ·have hbad:=hi.nought hb zO zO
  rw [hq] at hbad
  have c1:IntKind.u64.wrap ((b.toNat % 128:Nat):Int)=((b.toNat % 128:Nat):Int):=yAo _ zO
  have hfit:=hi.fit (b:=b) zO
  have sh:=yKo (b.toNat % 128) i i9 zO
  have orr:=or7 x (b.toNat % 128) i hi.x7 hfit
  have ql:decide ((b.toNat:Int)<128)=true:=zY zO
  have q9:decide ((i:Int)=9)=true:=zY zO
  have qb:decide ((1:Int)<(b.toNat:Int))=false:=zZ zO
  have q0:decide ((b.toNat:Int)=0)=true:=zY zO
  have q1:decide ((0:Int)<(i:Int))=true:=zY zO
  repeat' (first|refine yAb ?_;refine xca cl fun _=>?_|refine yAj ?_;refine yAa (yAn rfl e2) ?_|refine yAa (yAg rfl c1) ?_|refine yAa (yAk rfl rfl zO hbs) ?_|refine yAa (yAd (r:=((a+i:Nat):Int)) rfl rfl zO zO) ?_|refine yAa (yAd (r:=((a+(i+1):Nat):Int)) rfl rfl zO zO) ?_|refine yAa (yAd (r:=((i+1:Nat):Int)) rfl rfl zO zO) ?_|refine yAa (yAG (r:=((7*i:Nat):Int)) rfl rfl zO zO) ?_|refine yH6 ?_;refine yAa (yER rfl rfl (yJi b)) ?_|refine yAa (yCj rfl rfl orr) ?_|refine yAa (yBk rfl rfl sh) ?_|refine yAa (yAf rfl rfl qe) ?_|refine yAa (yAf rfl rfl q9) ?_|refine yAa (yAf rfl rfl q0) ?_|refine yAa (yAc rfl rfl ql) ?_|refine yAa (yAe rfl rfl q1) ?_|refine yAa (yAe rfl rfl qb) ?_|refine xst ?_|refine xsa ?_;intro _|refine xsb ?_ ?_<;>intro _<;>try omega|refine xsc ?_|refine xdr 5 yBz ?_|refine xdr 6 yG7 ?_|refine xdr 8 yBz ?_|refine xdr 12 yBz ?_|refine xsd ?_ ?_|exact Rech.nil|fail)
  all_goals exact xdn () (hc:=by rw [hbad];rfl) (hE:=by rw [show a+rdL q=a by rw [hbad];rfl];exact (xN))
 ·have hok:=hi.done hb zO zO zO
  have hlen:=RuI.len hok zO
  rw [hq] at hok
  have c1:IntKind.u64.wrap ((b.toNat % 128:Nat):Int)=((b.toNat % 128:Nat):Int):=yAo _ zO
  have hfit:=hi.fit (b:=b) zO
  have sh:=yKo (b.toNat % 128) i i9 zO
  have orr:=or7 x (b.toNat % 128) i hi.x7 hfit
  have ql:decide ((b.toNat:Int)<128)=true:=zY zO
  have q9:decide ((i:Int)=9)=true:=zY zO
  have qb:decide ((1:Int)<(b.toNat:Int))=false:=zZ zO
  have q0:decide ((b.toNat:Int)=0)=false:=zZ zO
  have hA:a+(i+1)=a+rdL q:=by rw [hok];show _=a+(vu _).length;rw [hlen]
  have hV:Value.tuple #[.int .u64 ((x+b.toNat % 128*2 ^ (7*i):Nat):Int),.nilIface]=.tuple #[.int .u64 (rdN q:Nat),yAr F (rdE q)]:=by rw [hok];rfl
  repeat' (first|refine yAb ?_;refine xca cl fun _=>?_|refine yAj ?_;refine yAa (yAn rfl e2) ?_|refine yAa (yAg rfl c1) ?_|refine yAa (yAk rfl rfl zO hbs) ?_|refine yAa (yAd (r:=((a+i:Nat):Int)) rfl rfl zO zO) ?_|refine yAa (yAd (r:=((a+(i+1):Nat):Int)) rfl rfl zO zO) ?_|refine yAa (yAd (r:=((i+1:Nat):Int)) rfl rfl zO zO) ?_|refine yAa (yAG (r:=((7*i:Nat):Int)) rfl rfl zO zO) ?_|refine yH6 ?_;refine yAa (yER rfl rfl (yJi b)) ?_|refine yAa (yCj rfl rfl orr) ?_|refine yAa (yBk rfl rfl sh) ?_|refine yAa (yAf rfl rfl qe) ?_|refine yAa (yAf rfl rfl q9) ?_|refine yAa (yAf rfl rfl q0) ?_|refine yAa (yAc rfl rfl ql) ?_|refine yAa (yAe rfl rfl qb) ?_|refine xst ?_|refine xsa ?_;intro _|refine xsb ?_ ?_<;>intro _<;>try omega|refine xsc ?_|refine xdr 5 yBz ?_|refine xdr 6 yG7 ?_|refine xdr 8 yBz ?_|refine xdr 12 yBz ?_|refine xsd ?_ ?_|exact Rech.nil|fail)
  all_goals rw [hA]
  all_goals exact xdn () (hc:=by exact hV)
 ·have hbad:=hi.nought hb zO zO
  rw [hq] at hbad
  have c1:IntKind.u64.wrap ((b.toNat % 128:Nat):Int)=((b.toNat % 128:Nat):Int):=yAo _ zO
  have hfit:=hi.fit (b:=b) zO
  have sh:=yKo (b.toNat % 128) i i9 zO
  have orr:=or7 x (b.toNat % 128) i hi.x7 hfit
  have ql:decide ((b.toNat:Int)<128)=true:=zY zO
  have q9:decide ((i:Int)=9)=false:=zZ zO
  have q0:decide ((b.toNat:Int)=0)=true:=zY zO
  have q1:decide ((0:Int)<(i:Int))=true:=zY zO
  repeat' (first|refine yAb ?_;refine xca cl fun _=>?_|refine yAj ?_;refine yAa (yAn rfl e2) ?_|refine yAa (yAg rfl c1) ?_|refine yAa (yAk rfl rfl zO hbs) ?_|refine yAa (yAd (r:=((a+i:Nat):Int)) rfl rfl zO zO) ?_|refine yAa (yAd (r:=((a+(i+1):Nat):Int)) rfl rfl zO zO) ?_|refine yAa (yAd (r:=((i+1:Nat):Int)) rfl rfl zO zO) ?_|refine yAa (yAG (r:=((7*i:Nat):Int)) rfl rfl zO zO) ?_|refine yH6 ?_;refine yAa (yER rfl rfl (yJi b)) ?_|refine yAa (yCj rfl rfl orr) ?_|refine yAa (yBk rfl rfl sh) ?_|refine yAa (yAf rfl rfl qe) ?_|refine yAa (yAf rfl rfl q9) ?_|refine yAa (yAf rfl rfl q0) ?_|refine yAa (yAc rfl rfl ql) ?_|refine yAa (yAe rfl rfl q1) ?_|refine yAa (yAe rfl rfl qb) ?_|refine xst ?_|refine xsa ?_;intro _|refine xsb ?_ ?_<;>intro _<;>try omega|refine xsc ?_|refine xdr 5 yBz ?_|refine xdr 6 yG7 ?_|refine xdr 8 yBz ?_|refine xdr 12 yBz ?_|refine xsd ?_ ?_|exact Rech.nil|fail)
  all_goals exact xdn () (hc:=by rw [hbad];rfl) (hE:=by rw [show a+rdL q=a by rw [hbad];rfl];exact (xN))
 ·have hok:=hi.done hb zO zO zO
  have hlen:=RuI.len hok zO
  rw [hq] at hok
  have c1:IntKind.u64.wrap ((b.toNat % 128:Nat):Int)=((b.toNat % 128:Nat):Int):=yAo _ zO
  have hfit:=hi.fit (b:=b) zO
  have sh:=yKo (b.toNat % 128) i i9 zO
  have orr:=or7 x (b.toNat % 128) i hi.x7 hfit
  have ql:decide ((b.toNat:Int)<128)=true:=zY zO
  have q9:decide ((i:Int)=9)=false:=zZ zO
  have q0:decide ((b.toNat:Int)=0)=true:=zY zO
  have q1:decide ((0:Int)<(i:Int))=false:=zZ zO
  have hA:a+(i+1)=a+rdL q:=by rw [hok];show _=a+(vu _).length;rw [hlen]
  have hV:Value.tuple #[.int .u64 ((x+b.toNat % 128*2 ^ (7*i):Nat):Int),.nilIface]=.tuple #[.int .u64 (rdN q:Nat),yAr F (rdE q)]:=by rw [hok];rfl
  repeat' (first|refine yAb ?_;refine xca cl fun _=>?_|refine yAj ?_;refine yAa (yAn rfl e2) ?_|refine yAa (yAg rfl c1) ?_|refine yAa (yAk rfl rfl zO hbs) ?_|refine yAa (yAd (r:=((a+i:Nat):Int)) rfl rfl zO zO) ?_|refine yAa (yAd (r:=((a+(i+1):Nat):Int)) rfl rfl zO zO) ?_|refine yAa (yAd (r:=((i+1:Nat):Int)) rfl rfl zO zO) ?_|refine yAa (yAG (r:=((7*i:Nat):Int)) rfl rfl zO zO) ?_|refine yH6 ?_;refine yAa (yER rfl rfl (yJi b)) ?_|refine yAa (yCj rfl rfl orr) ?_|refine yAa (yBk rfl rfl sh) ?_|refine yAa (yAf rfl rfl qe) ?_|refine yAa (yAf rfl rfl q9) ?_|refine yAa (yAf rfl rfl q0) ?_|refine yAa (yAc rfl rfl ql) ?_|refine yAa (yAe rfl rfl q1) ?_|refine yAa (yAe rfl rfl qb) ?_|refine xst ?_|refine xsa ?_;intro _|refine xsb ?_ ?_<;>intro _<;>try omega|refine xsc ?_|refine xdr 5 yBz ?_|refine xdr 6 yG7 ?_|refine xdr 8 yBz ?_|refine xdr 12 yBz ?_|refine xsd ?_ ?_|exact Rech.nil|fail)
  all_goals rw [hA]
  all_goals exact xdn () (hc:=by exact hV)
 ·have hok:=hi.done hb zO zO zO
  have hlen:=RuI.len hok zO
  rw [hq] at hok
  have c1:IntKind.u64.wrap ((b.toNat % 128:Nat):Int)=((b.toNat % 128:Nat):Int):=yAo _ zO
  have hfit:=hi.fit (b:=b) zO
  have sh:=yKo (b.toNat % 128) i i9 zO
  have orr:=or7 x (b.toNat % 128) i hi.x7 hfit
  have ql:decide ((b.toNat:Int)<128)=true:=zY zO
  have q9:decide ((i:Int)=9)=false:=zZ zO
  have q0:decide ((b.toNat:Int)=0)=false:=zZ zO
  have hA:a+(i+1)=a+rdL q:=by rw [hok];show _=a+(vu _).length;rw [hlen]
  have hV:Value.tuple #[.int .u64 ((x+b.toNat % 128*2 ^ (7*i):Nat):Int),.nilIface]=.tuple #[.int .u64 (rdN q:Nat),yAr F (rdE q)]:=by rw [hok];rfl
  repeat' (first|refine yAb ?_;refine xca cl fun _=>?_|refine yAj ?_;refine yAa (yAn rfl e2) ?_|refine yAa (yAg rfl c1) ?_|refine yAa (yAk rfl rfl zO hbs) ?_|refine yAa (yAd (r:=((a+i:Nat):Int)) rfl rfl zO zO) ?_|refine yAa (yAd (r:=((a+(i+1):Nat):Int)) rfl rfl zO zO) ?_|refine yAa (yAd (r:=((i+1:Nat):Int)) rfl rfl zO zO) ?_|refine yAa (yAG (r:=((7*i:Nat):Int)) rfl rfl zO zO) ?_|refine yH6 ?_;refine yAa (yER rfl rfl (yJi b)) ?_|refine yAa (yCj rfl rfl orr) ?_|refine yAa (yBk rfl rfl sh) ?_|refine yAa (yAf rfl rfl qe) ?_|refine yAa (yAf rfl rfl q9) ?_|refine yAa (yAf rfl rfl q0) ?_|refine yAa (yAc rfl rfl ql) ?_|refine yAa (yAe rfl rfl qb) ?_|refine xst ?_|refine xsa ?_;intro _|refine xsb ?_ ?_<;>intro _<;>try omega|refine xsc ?_|refine xdr 5 yBz ?_|refine xdr 6 yG7 ?_|refine xdr 8 yBz ?_|refine xdr 12 yBz ?_|refine xsd ?_ ?_|exact Rech.nil|fail)
  all_goals rw [hA]
  all_goals exact xdn () (hc:=by exact hV)
 ·have hnx:=hi.next hb zO h9.2
  have c1:IntKind.u64.wrap ((b.toNat % 128:Nat):Int)=((b.toNat % 128:Nat):Int):=yAo _ zO
  have hfit:=hi.fit (b:=b) zO
  have sh:=yKo (b.toNat % 128) i i9 zO
  have orr:=or7 x (b.toNat % 128) i hi.x7 hfit
  have ql:decide ((b.toNat:Int)<128)=false:=zZ zO
  have q9:decide ((i:Int)=9)=false:=zZ zO
  repeat' (first|refine yAb ?_;refine xca cl fun _=>?_|refine yAj ?_;refine yAa (yAn rfl e2) ?_|refine yAa (yAg rfl c1) ?_|refine yAa (yAk rfl rfl zO hbs) ?_|refine yAa (yAd (r:=((a+i:Nat):Int)) rfl rfl zO zO) ?_|refine yAa (yAd (r:=((a+(i+1):Nat):Int)) rfl rfl zO zO) ?_|refine yAa (yAd (r:=((i+1:Nat):Int)) rfl rfl zO zO) ?_|refine yAa (yAG (r:=((7*i:Nat):Int)) rfl rfl zO zO) ?_|refine yH6 ?_;refine yAa (yER rfl rfl (yJi b)) ?_|refine yAa (yCj rfl rfl orr) ?_|refine yAa (yBk rfl rfl sh) ?_|refine yAa (yAf rfl rfl qe) ?_|refine yAa (yAf rfl rfl q9) ?_|refine yAa (yAf rfl rfl q0) ?_|refine yAa (yAc rfl rfl ql) ?_|refine yAa (yAe rfl rfl qb) ?_|refine xst ?_|refine xsa ?_;intro _|refine xsb ?_ ?_<;>intro _<;>try omega|refine xsc ?_|refine xdr 5 yBz ?_|refine xdr 6 yG7 ?_|refine xdr 8 yBz ?_|refine xdr 12 yBz ?_|refine xsd ?_ ?_|exact Rech.nil|fail)
  all_goals refine yAp ⟨(i+1,x+b.toNat % 128*2 ^ (7*i)),hnx⟩ (by show 10-(i+1)<10-i;omega) xB (xN)
end
theorem yIs {F : Nat → Addr} {e : Nat} (h : e ≠ 0) : yIJ (.interface #[("Error", 54)]) (yAr F e) .nilIface = some false := by rw [yDt F e zO]; rfl
theorem xAP (b:UInt8):ShlF .u64 (b.toNat:Int) 0 (b.toNat:Int):=by
 have hb:=zLy b
 refine ⟨zO,?_⟩
 show IntKind.u64.wrap ((b.toNat:Int)*2 ^ 0)=_
 rw [show ((b.toNat:Int)*2 ^ 0)=((b.toNat:Nat):Int) by simp]
 exact yAo _ zO
theorem or0 (b:UInt8):OrF .u64 0 (b.toNat:Int) (b.toNat:Int):=by
 have hb:=zLy b
 have:=or7 0 b.toNat 0 zW zO
 have e:((b.toNat*2 ^ (7*0):Nat):Int)=(b.toNat:Int):=zW
 have e2:((0+b.toNat*2 ^ (7*0):Nat):Int)=(b.toNat:Int):=zW
 rw [e,e2] at this
 exact this
def yGy (most:Nat):Rd Nat→Nat
 |.bad e=>e
 |.ok x _=>if most<x then 3 else 0
def yNm (most:Nat):Rd Nat→Nat
 |.bad _=>0
 |.ok x _=>if most<x then 0 else x
def yNn (most:Nat):Rd Nat→Nat
 |.bad _=>0
 |.ok x _=>if most<x then 0 else (vu x).length
section
variable {W:World} {F:Nat→Addr} {p:Nat} {s:List UInt8} {a:Nat}
theorem yXF (ha:a=s.length) (hs:s.length≤9223372036854775807) (e1:W.cell? ⟨7,0,none⟩=some (yAr F 1)) :
 CtU prog W 196 [zPp p,.int .i64 1] [rdP p s a] (.tuple #[.int .u64 0,yAr F 1]) [rdP p s a]:=by
 have cl:=yFQ (W:=W) (p:=p) (s:=s) (a:=a) zO zO
 have ql:decide (((s.length-a:Nat):Int)<1)=true:=zY zO
 refine Ct.enter func196 rfl ntmps196 zW (fun R=>?_)
 repeat' (first|refine yAb ?_;refine xca cl fun _=>?_|refine yAj ?_;refine yAa (yAn rfl e1) ?_|refine yAa (yAc rfl rfl ql) ?_|refine xst ?_|refine xsa ?_;intro _|refine xsb ?_ ?_<;>intro _<;>try omega|refine xsc ?_|refine xdr 2 yBz ?_|refine xdr 7 yPi ?_|refine xsd ?_ ?_|exact Rech.nil|exact xdn ()|fail)
theorem yXG {b:UInt8} (hb:s[a]? = some b) (hs:s.length≤9223372036854775807) :
 CtU prog W 196 [zPp p,.int .i64 1] [rdP p s a] (.tuple #[.int .u64 (b.toNat:Int),.nilIface]) [rdP p s (a+1)]:=by
 have hlt:=(zLc.1 hb).1
 have hbt:=zLy b
 have cl:=yFQ (W:=W) (p:=p) (s:=s) (a:=a) zO zO
 have ql:decide (((s.length-a:Nat):Int)<1)=false:=zZ zO
 refine Ct.enter func196 rfl ntmps196 zW (fun R=>?_)
 repeat' (first|refine yAb ?_;refine xca cl fun _=>?_|refine yAa (yAc rfl rfl ql) ?_|refine xst ?_|refine xsa ?_;intro _|refine xsb ?_ ?_<;>intro _<;>try omega|refine xsc ?_|refine xdr 2 yBz ?_|refine xdr 7 yPi ?_|refine xsd ?_ ?_|exact Rech.nil|fail)
 refine yAz (fun i:{i:Nat × Nat//(i.1=0∧i.2=0)∨(i.1=1∧i.2=b.toNat)}=>[(0,zPp p),(1,.int .i64 1),(6,.int .u64 (i.1.2:Nat)),(13,.int .i64 1),(14,.int .i64 (i.1.1:Nat))])
  (fun i=>[rdP p s a]++R) (fun i=>1-i.1.1) ⟨(0,0),.inl ⟨rfl,rfl⟩⟩ xB (xN) (fun ⟨(i,x),hi⟩=>?_)
 dsimp only at hi ⊢
 rcases hi with ⟨rfl,rfl⟩|⟨rfl,rfl⟩
 ·have q1:decide (((0:Nat):Int)<1)=true:=rfl
  have hb2:s[Int.toNat ((a:Nat):Int)]? = some b:=by simpa using hb
  have c1:IntKind.u64.wrap ((b.toNat:Nat):Int)=((b.toNat:Nat):Int):=yAo _ zO
  repeat' (first|refine yAa (yAg rfl c1) ?_|refine yAa (yAk rfl rfl zO hb2) ?_|refine yAa (yAd (r:=((1:Nat):Int)) rfl rfl zO zO) ?_|refine yAa (yAd (r:=((a:Nat):Int)) rfl rfl zO zO) ?_|refine yAa (yAG (r:=0) rfl rfl zO zO) ?_|refine yAa (yCj rfl rfl (or0 b)) ?_|refine yAa (yBk rfl rfl (xAP b)) ?_|refine yAa (yAc rfl rfl q1) ?_|refine xst ?_|refine xsa ?_;intro _|refine xsb ?_ ?_<;>intro _<;>try omega|refine xsc ?_|refine xdr 2 yBz ?_|refine xdr 7 yPi ?_|refine xsd ?_ ?_|exact Rech.nil|fail)
  all_goals refine yAp ⟨(1,b.toNat),.inr ⟨rfl,rfl⟩⟩ (by show 1-1<1-0;omega) xB (xN)
 ·have q1:decide (((1:Nat):Int)<1)=false:=rfl
  repeat' (first|refine yAa (yAd (r:=((a+1:Nat):Int)) rfl rfl zO zO) ?_|refine yAa (yAc rfl rfl q1) ?_|refine xst ?_|refine xsa ?_;intro _|refine xsb ?_ ?_<;>intro _<;>try omega|refine xsc ?_|refine xdr 2 yBz ?_|refine xdr 7 yPi ?_|refine xsd ?_ ?_|exact Rech.nil|exact xdn ()|fail)
theorem yVi (ha:a=s.length) (hs:s.length≤9223372036854775807) (e1:W.cell? ⟨7,0,none⟩=some (yAr F 1)) :
 CtU prog W 167 [zPp p] [rdP p s a] (.tuple #[bv 0,yAr F 1]) [rdP p s a]:=by
 have cl:=yXF (W:=W) (F:=F) (p:=p) (s:=s) (a:=a) ha hs e1
 refine Ct.enter func167 rfl ntmps167 zW (fun R=>?_)
 repeat' (first|refine yAb ?_;refine xca cl fun _=>?_|refine yAa (yAg (j:=0) rfl rfl) ?_|refine xst ?_|refine xsa ?_;intro _|refine xsb ?_ ?_<;>intro _<;>try omega|refine xsc ?_|exact xdn ()|fail)
theorem yLA {b:UInt8} (hb:s[a]? = some b) (hs:s.length≤9223372036854775807) :
 CtU prog W 167 [zPp p] [rdP p s a] (.tuple #[bv b,.nilIface]) [rdP p s (a+1)]:=by
 have hbt:=zLy b
 have cl:=yXG (W:=W) (p:=p) (s:=s) (a:=a) hb hs
 have c1:IntKind.u8.wrap ((b.toNat:Nat):Int)=((b.toNat:Nat):Int):=by rw [yOf];congr 1;omega
 refine Ct.enter func167 rfl ntmps167 zW (fun R=>?_)
 repeat' (first|refine yAb ?_;refine xca cl fun _=>?_|refine yAa (yAg rfl c1) ?_|refine xst ?_|refine xsa ?_;intro _|refine xsb ?_ ?_<;>intro _<;>try omega|refine xsc ?_|exact xdn ()|fail)
theorem yDc (ha:a≤s.length) (hs:s.length≤9223372036854775807) (e5:W.cell? ⟨11,0,none⟩=some (yAr F 5)) :
 CtU prog W 88 [zPp p] [rdP p s a] (yAr F (if a<s.length then 5 else 0)) [rdP p s a]:=by
 have cl:=yFQ (W:=W) (p:=p) (s:=s) (a:=a) ha zO
 by_cases h:a<s.length
 ·have ql:decide ((0:Int)<((s.length-a:Nat):Int))=true:=zY zO
  rw [if_pos h]
  refine Ct.enter func88 rfl ntmps88 zW (fun R=>?_)
  repeat' (first|refine yAb ?_;refine xca cl fun _=>?_|refine yAj ?_;refine yAa (yAn rfl e5) ?_|refine yAa (yAe rfl rfl ql) ?_|refine xst ?_|refine xsa ?_;intro _|refine xsb ?_ ?_<;>intro _<;>try omega|refine xsc ?_|exact xdn ()|fail)
 ·have ql:decide ((0:Int)<((s.length-a:Nat):Int))=false:=zZ zO
  rw [if_neg h]
  refine Ct.enter func88 rfl ntmps88 zW (fun R=>?_)
  repeat' (first|refine yAb ?_;refine xca cl fun _=>?_|refine yAa (yAe rfl rfl ql) ?_|refine xst ?_|refine xsa ?_;intro _|refine xsb ?_ ?_<;>intro _<;>try omega|refine xsc ?_|exact xdn ()|fail)
theorem yVj (br bm most:Nat) (hm:most≤9223372036854775807) (ha:a≤s.length) (hs:s.length≤9223372036854775807) (e1:W.cell? ⟨7,0,none⟩=some (yAr F 1)) (e2:W.cell? ⟨8,0,none⟩=some (yAr F 2)) (e3:W.cell? ⟨9,0,none⟩=some (yAr F 3)) (q:Rd Nat) (hq:ru (s.drop a)=q) :
 Ct prog W 132 [zPp br,zPp bm] [rdP p s a,yAi br [zPp p] 143,yAi bm [.int .i64 (most:Nat)] 3] (fun _:Unit=>.tuple #[.int .i64 (IntKind.i64.wrap (rdN q:Nat)),yAr F (yGy most q)])
  (fun _=>[rdP p s (a+rdL q),yAi br [zPp p] 143,yAi bm [.int .i64 (most:Nat)] 3]):=by
 have cu:=yDz (W:=W) (F:=F) (p:=p) (s:=s) (a:=a) ha hs e1 e2 q hq
 have cm:IntKind.u64.wrap ((most:Nat):Int)=((most:Nat):Int):=yAo _ zO
 have q0:decide ((most:Int)<0)=false:=zZ zO
 cases q with
 |bad e=>
  have hne:e≠0:=by rcases yC2 hq with h|h <;> omega
  have hn:=yIs (F:=F) hne
  refine Ct.enter func132 rfl ntmps132 zW (fun R=>?_)
  repeat' (first|refine yAb ?_;refine xca cu fun _=>?_|refine yAa (yIK rfl hn) ?_|refine xst ?_|refine xsa ?_;intro _|refine xsb ?_ ?_<;>intro _<;>try omega|refine xsc ?_|exact xdn ()|fail)
 |ok x t=>
  have hx:=(yGO hq).2
  by_cases hl:most<x
  ·have qg:decide (((most:Nat):Int)<((x:Nat):Int))=true:=zY zO
   have he:yGy most (.ok x t)=3:=if_pos hl
   rw [he]
   refine Ct.enter func132 rfl ntmps132 zW (fun R=>?_)
   repeat' (first|refine yAb ?_;refine xca cu fun _=>?_|refine yAj ?_;refine yAa (yAn rfl e3) ?_|refine yAa (yAg rfl cm) ?_|refine yAa (yAc rfl rfl q0) ?_|refine yAa (yAe rfl rfl qg) ?_|refine xst ?_|refine xsa ?_;intro _|refine xsb ?_ ?_<;>intro _<;>try omega|refine xsc ?_|exact xdn ()|fail)
  ·have qg:decide (((most:Nat):Int)<((x:Nat):Int))=false:=zZ zO
   have he:yGy most (.ok x t)=0:=if_neg hl
   rw [he]
   refine Ct.enter func132 rfl ntmps132 zW (fun R=>?_)
   repeat' (first|refine yAb ?_;refine xca cu fun _=>?_|refine yAa (yAg rfl cm) ?_|refine yAa (yAc rfl rfl q0) ?_|refine yAa (yAe rfl rfl qg) ?_|refine xst ?_|refine xsa ?_;intro _|refine xsb ?_ ?_<;>intro _<;>try omega|refine xsc ?_|exact xdn ()|fail)
end
end Go.Proofs.YtlnbkbfblhofbaaGreatDoor
