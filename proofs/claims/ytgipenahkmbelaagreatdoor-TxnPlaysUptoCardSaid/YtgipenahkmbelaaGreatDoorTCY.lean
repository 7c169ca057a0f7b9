/-
  RuP, RdW1, RdW2.
-/
import Derived.Test.YtgipenahkmbelaaGreatDoorTFE
import Derived.Test.YtgipenahkmbelaaGreatDoorTDX
import Derived.Test.YtgipenahkmbelaaGreatDoorTCP
set_option maxHeartbeats 64000000
namespace Go.Proofs.YtgipenahkmbelaaGreatDoor
open Go Go.RowKit
abbrev plTCY0:Pl:=(.op 0 (.op 1 (.op 2 (.op 3 (.op 4 (.op 5 (.op 6 (.op 7 (.op 8 (.op 9 (.op 10 .nil)))))))))))
abbrev plTCY1:Pl:=(.op 0 (.op 1 (.op 2 .nil)))
abbrev plTCY2:Pl:=(.op 0 (.op 1 (.op 2 (.op 3 (.op 4 (.op 5 (.op 6 (.op 7 (.op 8 (.op 9 (.op 10 (.op 11 .nil))))))))))))
structure AndF (kd:IntKind) (i j y:Int):Prop where
 h:bits .and kd i j=y
theorem Ev_and_s {P:Program} {W:World} {n:Nat} {E:Env} {H:List SP} {t u:TypeId} {x y:Operand} {kd:IntKind} {i j r:Int} (hx:Env.ev E x=some (.int kd i)) (hy:Env.ev E y=some (.int kd j)) (h:AndF kd i j r):Ev P W n E H (.binOp .and t x y u) (.int kd r):=by
 have q:=h.h
 subst q
 exact Ev_and hx hy
structure ShlF (kd:IntKind) (i s y:Int):Prop where
 h0:0≤s
 h:kd.wrap (i*2 ^ (min s.toNat kd.bits))=y
theorem Ev_shl_t {P:Program} {W:World} {n:Nat} {E:Env} {H:List SP} {t u:TypeId} {x y:Operand} {kd yk:IntKind} {i j r:Int} (hx:Env.ev E x=some (.int kd i)) (hy:Env.ev E y=some (.int yk j)) (h:ShlF kd i j r):Ev P W n E H (.binOp .shl t x y u) (.int kd r):=by
 have q:=h.h
 subst q
 exact Ev_shl hx hy h.h0
theorem and127 (b:UInt8):AndF .u8 (b.toNat:Int) 127 ((b.toNat % 128:Nat):Int):=by
 refine ⟨?_⟩
 have key:∀ y:Fin 256,bits .and .u8 ((y.val:Nat):Int) 127=((y.val % 128:Nat):Int):=by decide +kernel
 exact key ⟨b.toNat,UInt8.toNat_lt b⟩
theorem shl7 (y i:Nat) (hi:i≤9) (hy:y*2 ^ (7*i)<18446744073709551616):ShlF .u64 (y:Int) ((7*i:Nat):Int) ((y*2 ^ (7*i):Nat):Int):=by
 refine ⟨by omega,?_⟩
 have hm:min ((7*i:Nat):Int).toNat IntKind.u64.bits=7*i:=by
  show min ((7*i:Nat):Int).toNat 64=7*i
  omega
 rw [hm]
 have e2:((y:Int)*2 ^ (7*i))=((y*2 ^ (7*i):Nat):Int):=by simp
 rw [e2]
 exact u64_wrap _ hy
theorem or7 (x y i:Nat) (hx:x<2 ^ (7*i)) (hs:y*2 ^ (7*i)+x<18446744073709551616):OrF .u64 (x:Int) ((y*2 ^ (7*i):Nat):Int) ((x+y*2 ^ (7*i):Nat):Int):=by
 refine ⟨?_⟩
 obtain ⟨z,hz⟩:∃ z,z=y*2 ^ (7*i):=⟨_,rfl⟩
 have hor:x ||| z=x+z:=by rw [hz,Nat.or_comm,Nat.mul_comm,← Nat.two_pow_add_eq_or_of_lt hx,Nat.add_comm]
 rw [← hz] at hs ⊢
 have e:bits .or .u64 (x:Int) (z:Int)=IntKind.u64.wrap ((BitVec.ofInt 64 (x:Int) ||| BitVec.ofInt 64 (z:Int)).toNat:Int):=rfl
 have b1:(BitVec.ofInt 64 (x:Int)).toNat=x:=by rw [BitVec.toNat_ofInt];omega
 have b2:(BitVec.ofInt 64 (z:Int)).toNat=z:=by rw [BitVec.toNat_ofInt];omega
 rw [e,BitVec.toNat_or,b1,b2,hor]
 exact u64_wrap _ (by omega)
structure RuI (l:List UInt8) (i x:Nat):Prop where
 go:ruG (l.drop i) i x=ru l
 i9:i≤9
 x7:x<2 ^ (7*i)
 il:i≤l.length
theorem RuI.start (l:List UInt8):RuI l 0 0:=⟨rfl,by omega,by simp,by omega⟩
theorem drop_get {l:List UInt8} {i:Nat} {b:UInt8} (hb:l[i]? = some b):l.drop i=b::l.drop (i+1):=by
 obtain ⟨h1,h2⟩:=List.getElem?_eq_some_iff.1 hb
 rw [List.drop_eq_getElem_cons h1,h2]
section
variable {l:List UInt8} {i x:Nat} {b:UInt8}
theorem RuI.short (h:RuI l i x) (hi:l.length≤i):ru l=.bad 1:=by
 rw [← h.go,List.drop_of_length_le hi];rfl
theorem RuI.bad (h:RuI l i x) (hb:l[i]? = some b) (hc:i=9∧1<b.toNat):ru l=.bad 2:=by
 rw [← h.go,drop_get hb];unfold ruG;rw [if_pos hc]
theorem RuI.nought (h:RuI l i x) (hb:l[i]? = some b) (h0:b.toNat=0) (hi:0<i):ru l=.bad 2:=by
 rw [← h.go,drop_get hb];unfold ruG;rw [if_neg (by omega),if_pos (by omega),if_pos ⟨h0,hi⟩]
theorem RuI.done (h:RuI l i x) (hb:l[i]? = some b) (hn:¬ (i=9∧1<b.toNat)) (hs:b.toNat<128) (h0:¬ (b.toNat=0∧0<i)):ru l=.ok (x+b.toNat % 128*2 ^ (7*i)) (l.drop (i+1)):=by
 rw [← h.go,drop_get hb];unfold ruG;rw [if_neg hn,if_pos hs,if_neg h0,Nat.mod_eq_of_lt hs]
theorem RuI.fit (h:RuI l i x) (hn:¬ (i=9∧1<b.toNat)):b.toNat % 128*2 ^ (7*i)+x<18446744073709551616:=by
 have hx:=h.x7
 have h9:=h.i9
 have hbb:=UInt8.toNat_lt b
 by_cases e:i=9
 ·subst e
  have:b.toNat % 128≤1:=by omega
  have:=Nat.mul_le_mul_right (2 ^ (7*9)) this
  omega
 ·have:b.toNat % 128≤127:=by omega
  have:=Nat.mul_le_mul_right (2 ^ (7*i)) this
  have:(2:Nat) ^ (7*i)≤2 ^ (7*8):=Nat.pow_le_pow_right (by omega) (by omega)
  omega
theorem RuI.next (h:RuI l i x) (hb:l[i]? = some b) (hn:¬ (i=9∧1<b.toNat)) (hs:¬ b.toNat<128):RuI l (i+1) (x+b.toNat % 128*2 ^ (7*i)):=by
 have h1:=(List.getElem?_eq_some_iff.1 hb).1
 have h9:=h.i9
 refine ⟨?_,by omega,?_,by omega⟩
 ·rw [← h.go,drop_get hb]
  conv=>rhs;unfold ruG
  rw [if_neg hn,if_neg hs]
 ·have hx:=h.x7
  have:b.toNat % 128≤127:=by omega
  have:=Nat.mul_le_mul_right (2 ^ (7*i)) this
  have e:(2:Nat) ^ (7*(i+1))=128*2 ^ (7*i):=by rw [Nat.mul_add,Nat.pow_add,Nat.mul_comm]
  omega
theorem RuI.len {z:Nat} {j:Nat} (h:ru l=.ok z (l.drop j)) (hj:j≤l.length):(vu z).length=j:=by
 have:=congrArg List.length (vu_ru h).1
 rw [List.length_append,List.length_drop] at this
 omega
end
theorem ru_drop {s t:List UInt8} {a x:Nat} (h:ru (s.drop a)=.ok x t):t=s.drop (a+(vu x).length):=by
 have e:=(vu_ru h).1
 rw [← List.drop_drop,e,List.drop_left]
theorem ru_fit {s t:List UInt8} {a x:Nat} (h:ru (s.drop a)=.ok x t):a+(vu x).length≤s.length:=by
 have e:=congrArg List.length (vu_ru h).1
 have p:=vu_pos x
 rw [List.length_append,List.length_drop] at e
 omega
theorem ruG_err:∀ (l:List UInt8) (i acc e:Nat),ruG l i acc=.bad e→e=1∨e=2
 |[],_,_,_,h=>by cases h;exact .inl rfl
 |b::t,i,acc,e,h=>by
  unfold ruG at h
  split at h
  ·cases h;exact .inr rfl
  split at h
  ·split at h
   ·cases h;exact .inr rfl
   ·cases h
  ·exact ruG_err t _ _ e h
theorem ru_err {l:List UInt8} {e:Nat} (h:ru l=.bad e):e=1∨e=2:=ruG_err l 0 0 e h
theorem rtx_err {m:Nat} {l:List UInt8} {e:Nat} (h:rtx m l=.bad e):e=1∨e=2∨e=3:=by
 unfold rtx at h
 split at h
 ·rename_i e' he
  cases h
  rcases ru_err he with q|q <;> omega
 split at h
 ·cases h;omega
 split at h
 ·cases h;omega
 ·cases h
end Go.Proofs.YtgipenahkmbelaaGreatDoor
namespace Go.Proofs.YtgipenahkmbelaaGreatDoor
open Go Go.RowKit
abbrev rdP (p:Nat) (s:List UInt8) (a:Nat):SP:=zAh p [strV s,.int .i64 (a:Nat)] 207
def rdE {α:Type}:Rd α→Nat
 |.bad e=>e
 |.ok _ _=>0
def rdN:Rd Nat→Nat
 |.bad _=>0
 |.ok x _=>x
def rdL:Rd Nat→Nat
 |.bad _=>0
 |.ok x _=>(vu x).length
section
variable {W:World} {F:Nat→Addr} {p:Nat} {s:List UInt8} {a:Nat}
theorem rread_ct (s:List UInt8):Ct Tryz.prog W 103 [strV s] [] (fun p:Nat=>.pointer (some ⟨p,0,none⟩)) (fun p=>[rdP p s 0]):=by
 refine Ct.enter Tryz.func103 rfl Tryz.ntmps103 (by simp) (fun R=>?_)
 repeat' (first|(refine zBe ?_;refine zBb rfl xF rfl (fun g=>?_))|(refine zAy ?_;refine zAb (zAz xV xW) ?_)|refine xst ?_|(refine xsa ?_;intro _)|(refine xsb ?_ ?_ <;>intro _<;>try (exfalso;omega))|refine xsc ?_|fail)
 all_goals (exact xdn g)
theorem rleft_ct (ha:a≤s.length) (hs:s.length≤9223372036854775807):Ct Tryz.prog W 138 [.pointer (some ⟨p,0,none⟩)] [rdP p s a] (fun _:Unit=>.int .i64 (s.length-a:Nat)) (fun _=>[rdP p s a]):=by
 refine Ct.enter Tryz.func138 rfl Tryz.ntmps138 (by simp) (fun R=>?_)
 repeat' (first|(refine ek_sub ?_;refine zAb (Ev_subI_v (r:=((s.length-a:Nat):Int)) rfl rfl (by omega) (by omega)) ?_)|refine xst ?_|(refine xsa ?_;intro _)|(refine xsb ?_ ?_ <;>intro _<;>try (exfalso;omega))|refine xsc ?_|(refine zAa (id:=1) plTCY0 (by kernel_rfl) (by kernel_rfl) ?_)|refine zAp ?_ ?_|refine zAn rfl rfl rfl rfl rfl ?_ ?_|refine zAg ?_ ?_|exact Rech.nil|fail)
 all_goals (exact xdn ())
theorem ruint_ct (ha:a≤s.length) (hs:s.length≤9223372036854775807) (e1:W.cell? ⟨10,0,none⟩=some (errV F 1)) (e2:W.cell? ⟨11,0,none⟩=some (errV F 2)) (q:Rd Nat) (hq:ru (s.drop a)=q) :
 Ct Tryz.prog W 104 [.pointer (some ⟨p,0,none⟩)] [rdP p s a] (fun _:Unit=>.tuple #[.int .u64 (rdN q:Nat),errV F (rdE q)]) (fun _=>[rdP p s (a+rdL q)]):=by
 have cl:=rleft_ct (W:=W) (p:=p) (s:=s) (a:=a) ha (by omega)
 have hdl:(s.drop a).length=s.length-a:=List.length_drop
 refine Ct.enter Tryz.func104 rfl Tryz.ntmps104 (by simp) (fun R=>?_)
 repeat' (first|refine xst ?_|(refine xsa ?_;intro _)|(refine xsb ?_ ?_ <;>intro _<;>try (exfalso;omega))|refine xsc ?_|(refine zAa (id:=5) plTCY1 (by kernel_rfl) (by kernel_rfl) ?_)|(refine zAa (id:=6) plTCY2 (by kernel_rfl) (by kernel_rfl) ?_)|(refine zAa (id:=8) plTCY1 (by kernel_rfl) (by kernel_rfl) ?_)|(refine zAa (id:=12) plTCY1 (by kernel_rfl) (by kernel_rfl) ?_)|refine zAp ?_ ?_|refine zAn rfl rfl rfl rfl rfl ?_ ?_|refine zAg ?_ ?_|exact Rech.nil|fail)
 refine zBv (fun i:{i:Nat × Nat//RuI (s.drop a) i.1 i.2}=>[(0,.pointer (some ⟨p,0,none⟩)),(4,.int .u64 (i.1.2:Nat)),(5,.int .i64 (i.1.1:Nat))])
  (fun i=>[rdP p s a]++R) (fun i=>10-i.1.1) ⟨(0,0),RuI.start _⟩ xB (xN) (fun ⟨(i,x),hi⟩=>?_)
 dsimp only at hi ⊢
 have i9:=hi.i9
 have hil:=hi.il
 by_cases hend:i=s.length-a
 ·have hbad:=hi.short (by omega)
  rw [hq] at hbad
  have qe:decide ((i:Int)=((s.length-a:Nat):Int))=true:=decide_eq_true (by omega)
  repeat' (first|(refine zAd ?_;refine zAc xE cl xP rfl (fun _=>?_))|(refine zAm ?_;refine zAb (zAt rfl e1) ?_)|(refine zBg ?_;refine zAb (zAr rfl rfl qe) ?_)|refine xst ?_|(refine xsa ?_;intro _)|(refine xsb ?_ ?_ <;>intro _<;>try (exfalso;omega))|refine xsc ?_|(refine zAa (id:=5) plTCY1 (by kernel_rfl) (by kernel_rfl) ?_)|(refine zAa (id:=6) plTCY2 (by kernel_rfl) (by kernel_rfl) ?_)|(refine zAa (id:=8) plTCY1 (by kernel_rfl) (by kernel_rfl) ?_)|(refine zAa (id:=12) plTCY1 (by kernel_rfl) (by kernel_rfl) ?_)|refine zAp ?_ ?_|refine zAn rfl rfl rfl rfl rfl ?_ ?_|refine zAg ?_ ?_|exact Rech.nil|fail)
  all_goals exact xdn () (hc:=by rw [hbad];rfl) (hE:=by rw [show a+rdL q=a by rw [hbad];rfl];exact (xN))
 have qe:decide ((i:Int)=((s.length-a:Nat):Int))=false:=decide_eq_false (by omega)
 obtain ⟨b,hb⟩:∃ b,(s.drop a)[i]? = some b:=⟨_,List.getElem?_eq_getElem (by omega)⟩
 have hbs:s[a+i]? = some b:=by rw [← hb,List.getElem?_drop]
 have hbt:=UInt8.toNat_lt b
 have hcase:(i=9∧1<b.toNat)∨(i=9∧b.toNat=0)∨(i=9∧b.toNat=1)∨(i≠9∧b.toNat=0∧0<i)∨(i≠9∧b.toNat=0∧i=0)∨(i≠9∧0<b.toNat∧b.toNat<128)∨(i≠9∧¬ b.toNat<128):=by omega
 rcases hcase with h9|h9|h9|h9|h9|h9|h9
 ·have hbad:=hi.bad hb h9
  rw [hq] at hbad
  have q9:decide ((i:Int)=9)=true:=decide_eq_true (by omega)
  have qb:decide ((1:Int)<(b.toNat:Int))=true:=decide_eq_true (by omega)
  repeat' (first|(refine zAd ?_;refine zAc xE cl xP rfl (fun _=>?_))|(refine zAm ?_;refine zAb (zAt rfl e2) ?_)|(refine zBu ?_;refine zAb (zAw rfl c1) ?_)|(refine ek_index ?_;refine zAb (Ev_indexStr rfl rfl (by omega) hbs) ?_)|(refine zBh ?_;first|refine zAb (zAi (r:=((a+i:Nat):Int)) rfl rfl (by omega) (by omega)) ?_|refine zAb (zAi (r:=((a+(i+1):Nat):Int)) rfl rfl (by omega) (by omega)) ?_|refine zAb (zAi (r:=((i+1:Nat):Int)) rfl rfl (by omega) (by omega)) ?_)|(refine ek_mul ?_;refine zAb (Ev_mulI_v (r:=((7*i:Nat):Int)) rfl rfl (by omega) (by omega)) ?_)|(refine ek_and ?_;refine zAb (Ev_and_s rfl rfl (and127 b)) ?_)|(refine ek_or ?_;refine zAb (Ev_or_s rfl rfl orr) ?_)|(refine ek_shl ?_;refine zAb (Ev_shl_t rfl rfl sh) ?_)|(refine zBg ?_;first|refine zAb (zAr rfl rfl qe) ?_|refine zAb (zAr rfl rfl q9) ?_|refine zAb (zAr rfl rfl q0) ?_)|(refine zAq ?_;refine zAb (zAe rfl rfl ql) ?_)|(refine zBf ?_;refine zAb (zAk rfl rfl qb) ?_)|refine xst ?_|(refine xsa ?_;intro _)|(refine xsb ?_ ?_ <;>intro _<;>try (exfalso;omega))|refine xsc ?_|(refine zAa (id:=5) plTCY1 (by kernel_rfl) (by kernel_rfl) ?_)|(refine zAa (id:=6) plTCY2 (by kernel_rfl) (by kernel_rfl) ?_)|(refine zAa (id:=8) plTCY1 (by kernel_rfl) (by kernel_rfl) ?_)|(refine zAa (id:=12) plTCY1 (by kernel_rfl) (by kernel_rfl) ?_)|refine zAp ?_ ?_|refine zAn rfl rfl rfl rfl rfl ?_ ?_|refine zAg ?_ ?_|exact Rech.nil|fail)
  all_goals exact xdn () (hc:=by rw [hbad];rfl) (hE:=by rw [show a+rdL q=a by rw [hbad];rfl];exact (xN))
 ·have hbad:=hi.nought hb (by omega) (by omega)
  rw [hq] at hbad
  have c1:IntKind.u64.wrap ((b.toNat % 128:Nat):Int)=((b.toNat % 128:Nat):Int):=u64_wrap _ (by omega)
  have hfit:=hi.fit (b:=b) (by omega)
  have sh:=shl7 (b.toNat % 128) i i9 (by omega)
  have orr:=or7 x (b.toNat % 128) i hi.x7 hfit
  have ql:decide ((b.toNat:Int)<128)=true:=decide_eq_true (by omega)
  have q9:decide ((i:Int)=9)=true:=decide_eq_true (by omega)
  have qb:decide ((1:Int)<(b.toNat:Int))=false:=decide_eq_false (by omega)
  have q0:decide ((b.toNat:Int)=0)=true:=decide_eq_true (by omega)
  have q1:decide ((0:Int)<(i:Int))=true:=decide_eq_true (by omega)
  repeat' (first|(refine zAd ?_;refine zAc xE cl xP rfl (fun _=>?_))|(refine zAm ?_;refine zAb (zAt rfl e2) ?_)|(refine zBu ?_;refine zAb (zAw rfl c1) ?_)|(refine ek_index ?_;refine zAb (Ev_indexStr rfl rfl (by omega) hbs) ?_)|(refine zBh ?_;first|refine zAb (zAi (r:=((a+i:Nat):Int)) rfl rfl (by omega) (by omega)) ?_|refine zAb (zAi (r:=((a+(i+1):Nat):Int)) rfl rfl (by omega) (by omega)) ?_|refine zAb (zAi (r:=((i+1:Nat):Int)) rfl rfl (by omega) (by omega)) ?_)|(refine ek_mul ?_;refine zAb (Ev_mulI_v (r:=((7*i:Nat):Int)) rfl rfl (by omega) (by omega)) ?_)|(refine ek_and ?_;refine zAb (Ev_and_s rfl rfl (and127 b)) ?_)|(refine ek_or ?_;refine zAb (Ev_or_s rfl rfl orr) ?_)|(refine ek_shl ?_;refine zAb (Ev_shl_t rfl rfl sh) ?_)|(refine zBg ?_;first|refine zAb (zAr rfl rfl qe) ?_|refine zAb (zAr rfl rfl q9) ?_|refine zAb (zAr rfl rfl q0) ?_)|(refine zAq ?_;refine zAb (zAe rfl rfl ql) ?_)|(refine zBf ?_;first|refine zAb (zAk rfl rfl q1) ?_|refine zAb (zAk rfl rfl qb) ?_)|refine xst ?_|(refine xsa ?_;intro _)|(refine xsb ?_ ?_ <;>intro _<;>try (exfalso;omega))|refine xsc ?_|(refine zAa (id:=5) plTCY1 (by kernel_rfl) (by kernel_rfl) ?_)|(refine zAa (id:=6) plTCY2 (by kernel_rfl) (by kernel_rfl) ?_)|(refine zAa (id:=8) plTCY1 (by kernel_rfl) (by kernel_rfl) ?_)|(refine zAa (id:=12) plTCY1 (by kernel_rfl) (by kernel_rfl) ?_)|refine zAp ?_ ?_|refine zAn rfl rfl rfl rfl rfl ?_ ?_|refine zAg ?_ ?_|exact Rech.nil|fail)
  all_goals exact xdn () (hc:=by rw [hbad];rfl) (hE:=by rw [show a+rdL q=a by rw [hbad];rfl];exact (xN))
 ·have hok:=hi.done hb (by omega) (by omega) (by omega)
  have hlen:=RuI.len hok (by omega)
  rw [hq] at hok
  have c1:IntKind.u64.wrap ((b.toNat % 128:Nat):Int)=((b.toNat % 128:Nat):Int):=u64_wrap _ (by omega)
  have hfit:=hi.fit (b:=b) (by omega)
  have sh:=shl7 (b.toNat % 128) i i9 (by omega)
  have orr:=or7 x (b.toNat % 128) i hi.x7 hfit
  have ql:decide ((b.toNat:Int)<128)=true:=decide_eq_true (by omega)
  have q9:decide ((i:Int)=9)=true:=decide_eq_true (by omega)
  have qb:decide ((1:Int)<(b.toNat:Int))=false:=decide_eq_false (by omega)
  have q0:decide ((b.toNat:Int)=0)=false:=decide_eq_false (by omega)
  have hA:a+(i+1)=a+rdL q:=by rw [hok];show _=a+(vu _).length;rw [hlen]
  have hV:Value.tuple #[.int .u64 ((x+b.toNat % 128*2 ^ (7*i):Nat):Int),.nilIface]=.tuple #[.int .u64 (rdN q:Nat),errV F (rdE q)]:=by rw [hok];rfl
  repeat' (first|(refine zAd ?_;refine zAc xE cl xP rfl (fun _=>?_))|(refine zAm ?_;refine zAb (zAt rfl e2) ?_)|(refine zBu ?_;refine zAb (zAw rfl c1) ?_)|(refine ek_index ?_;refine zAb (Ev_indexStr rfl rfl (by omega) hbs) ?_)|(refine zBh ?_;first|refine zAb (zAi (r:=((a+i:Nat):Int)) rfl rfl (by omega) (by omega)) ?_|refine zAb (zAi (r:=((a+(i+1):Nat):Int)) rfl rfl (by omega) (by omega)) ?_|refine zAb (zAi (r:=((i+1:Nat):Int)) rfl rfl (by omega) (by omega)) ?_)|(refine ek_mul ?_;refine zAb (Ev_mulI_v (r:=((7*i:Nat):Int)) rfl rfl (by omega) (by omega)) ?_)|(refine ek_and ?_;refine zAb (Ev_and_s rfl rfl (and127 b)) ?_)|(refine ek_or ?_;refine zAb (Ev_or_s rfl rfl orr) ?_)|(refine ek_shl ?_;refine zAb (Ev_shl_t rfl rfl sh) ?_)|(refine zBg ?_;first|refine zAb (zAr rfl rfl qe) ?_|refine zAb (zAr rfl rfl q9) ?_|refine zAb (zAr rfl rfl q0) ?_)|(refine zAq ?_;refine zAb (zAe rfl rfl ql) ?_)|(refine zBf ?_;refine zAb (zAk rfl rfl qb) ?_)|refine xst ?_|(refine xsa ?_;intro _)|(refine xsb ?_ ?_ <;>intro _<;>try (exfalso;omega))|refine xsc ?_|(refine zAa (id:=5) plTCY1 (by kernel_rfl) (by kernel_rfl) ?_)|(refine zAa (id:=6) plTCY2 (by kernel_rfl) (by kernel_rfl) ?_)|(refine zAa (id:=8) plTCY1 (by kernel_rfl) (by kernel_rfl) ?_)|(refine zAa (id:=12) plTCY1 (by kernel_rfl) (by kernel_rfl) ?_)|refine zAp ?_ ?_|refine zAn rfl rfl rfl rfl rfl ?_ ?_|refine zAg ?_ ?_|exact Rech.nil|fail)
  all_goals rw [hA]
  all_goals exact xdn () (hc:=by exact hV)
 ·have hbad:=hi.nought hb (by omega) (by omega)
  rw [hq] at hbad
  have c1:IntKind.u64.wrap ((b.toNat % 128:Nat):Int)=((b.toNat % 128:Nat):Int):=u64_wrap _ (by omega)
  have hfit:=hi.fit (b:=b) (by omega)
  have sh:=shl7 (b.toNat % 128) i i9 (by omega)
  have orr:=or7 x (b.toNat % 128) i hi.x7 hfit
  have ql:decide ((b.toNat:Int)<128)=true:=decide_eq_true (by omega)
  have q9:decide ((i:Int)=9)=false:=decide_eq_false (by omega)
  have q0:decide ((b.toNat:Int)=0)=true:=decide_eq_true (by omega)
  have q1:decide ((0:Int)<(i:Int))=true:=decide_eq_true (by omega)
  repeat' (first|(refine zAd ?_;refine zAc xE cl xP rfl (fun _=>?_))|(refine zAm ?_;refine zAb (zAt rfl e2) ?_)|(refine zBu ?_;refine zAb (zAw rfl c1) ?_)|(refine ek_index ?_;refine zAb (Ev_indexStr rfl rfl (by omega) hbs) ?_)|(refine zBh ?_;first|refine zAb (zAi (r:=((a+i:Nat):Int)) rfl rfl (by omega) (by omega)) ?_|refine zAb (zAi (r:=((a+(i+1):Nat):Int)) rfl rfl (by omega) (by omega)) ?_|refine zAb (zAi (r:=((i+1:Nat):Int)) rfl rfl (by omega) (by omega)) ?_)|(refine ek_mul ?_;refine zAb (Ev_mulI_v (r:=((7*i:Nat):Int)) rfl rfl (by omega) (by omega)) ?_)|(refine ek_and ?_;refine zAb (Ev_and_s rfl rfl (and127 b)) ?_)|(refine ek_or ?_;refine zAb (Ev_or_s rfl rfl orr) ?_)|(refine ek_shl ?_;refine zAb (Ev_shl_t rfl rfl sh) ?_)|(refine zBg ?_;first|refine zAb (zAr rfl rfl qe) ?_|refine zAb (zAr rfl rfl q9) ?_|refine zAb (zAr rfl rfl q0) ?_)|(refine zAq ?_;refine zAb (zAe rfl rfl ql) ?_)|(refine zBf ?_;first|refine zAb (zAk rfl rfl q1) ?_|refine zAb (zAk rfl rfl qb) ?_)|refine xst ?_|(refine xsa ?_;intro _)|(refine xsb ?_ ?_ <;>intro _<;>try (exfalso;omega))|refine xsc ?_|(refine zAa (id:=5) plTCY1 (by kernel_rfl) (by kernel_rfl) ?_)|(refine zAa (id:=6) plTCY2 (by kernel_rfl) (by kernel_rfl) ?_)|(refine zAa (id:=8) plTCY1 (by kernel_rfl) (by kernel_rfl) ?_)|(refine zAa (id:=12) plTCY1 (by kernel_rfl) (by kernel_rfl) ?_)|refine zAp ?_ ?_|refine zAn rfl rfl rfl rfl rfl ?_ ?_|refine zAg ?_ ?_|exact Rech.nil|fail)
  all_goals exact xdn () (hc:=by rw [hbad];rfl) (hE:=by rw [show a+rdL q=a by rw [hbad];rfl];exact (xN))
 ·have hok:=hi.done hb (by omega) (by omega) (by omega)
  have hlen:=RuI.len hok (by omega)
  rw [hq] at hok
  have c1:IntKind.u64.wrap ((b.toNat % 128:Nat):Int)=((b.toNat % 128:Nat):Int):=u64_wrap _ (by omega)
  have hfit:=hi.fit (b:=b) (by omega)
  have sh:=shl7 (b.toNat % 128) i i9 (by omega)
  have orr:=or7 x (b.toNat % 128) i hi.x7 hfit
  have ql:decide ((b.toNat:Int)<128)=true:=decide_eq_true (by omega)
  have q9:decide ((i:Int)=9)=false:=decide_eq_false (by omega)
  have q0:decide ((b.toNat:Int)=0)=true:=decide_eq_true (by omega)
  have q1:decide ((0:Int)<(i:Int))=false:=decide_eq_false (by omega)
  have hA:a+(i+1)=a+rdL q:=by rw [hok];show _=a+(vu _).length;rw [hlen]
  have hV:Value.tuple #[.int .u64 ((x+b.toNat % 128*2 ^ (7*i):Nat):Int),.nilIface]=.tuple #[.int .u64 (rdN q:Nat),errV F (rdE q)]:=by rw [hok];rfl
  repeat' (first|(refine zAd ?_;refine zAc xE cl xP rfl (fun _=>?_))|(refine zAm ?_;refine zAb (zAt rfl e2) ?_)|(refine zBu ?_;refine zAb (zAw rfl c1) ?_)|(refine ek_index ?_;refine zAb (Ev_indexStr rfl rfl (by omega) hbs) ?_)|(refine zBh ?_;first|refine zAb (zAi (r:=((a+i:Nat):Int)) rfl rfl (by omega) (by omega)) ?_|refine zAb (zAi (r:=((a+(i+1):Nat):Int)) rfl rfl (by omega) (by omega)) ?_|refine zAb (zAi (r:=((i+1:Nat):Int)) rfl rfl (by omega) (by omega)) ?_)|(refine ek_mul ?_;refine zAb (Ev_mulI_v (r:=((7*i:Nat):Int)) rfl rfl (by omega) (by omega)) ?_)|(refine ek_and ?_;refine zAb (Ev_and_s rfl rfl (and127 b)) ?_)|(refine ek_or ?_;refine zAb (Ev_or_s rfl rfl orr) ?_)|(refine ek_shl ?_;refine zAb (Ev_shl_t rfl rfl sh) ?_)|(refine zBg ?_;first|refine zAb (zAr rfl rfl qe) ?_|refine zAb (zAr rfl rfl q9) ?_|refine zAb (zAr rfl rfl q0) ?_)|(refine zAq ?_;refine zAb (zAe rfl rfl ql) ?_)|(refine zBf ?_;first|refine zAb (zAk rfl rfl q1) ?_|refine zAb (zAk rfl rfl qb) ?_)|refine xst ?_|(refine xsa ?_;intro _)|(refine xsb ?_ ?_ <;>intro _<;>try (exfalso;omega))|refine xsc ?_|(refine zAa (id:=5) plTCY1 (by kernel_rfl) (by kernel_rfl) ?_)|(refine zAa (id:=6) plTCY2 (by kernel_rfl) (by kernel_rfl) ?_)|(refine zAa (id:=8) plTCY1 (by kernel_rfl) (by kernel_rfl) ?_)|(refine zAa (id:=12) plTCY1 (by kernel_rfl) (by kernel_rfl) ?_)|refine zAp ?_ ?_|refine zAn rfl rfl rfl rfl rfl ?_ ?_|refine zAg ?_ ?_|exact Rech.nil|fail)
  all_goals rw [hA]
  all_goals exact xdn () (hc:=by exact hV)
 ·have hok:=hi.done hb (by omega) (by omega) (by omega)
  have hlen:=RuI.len hok (by omega)
  rw [hq] at hok
  have c1:IntKind.u64.wrap ((b.toNat % 128:Nat):Int)=((b.toNat % 128:Nat):Int):=u64_wrap _ (by omega)
  have hfit:=hi.fit (b:=b) (by omega)
  have sh:=shl7 (b.toNat % 128) i i9 (by omega)
  have orr:=or7 x (b.toNat % 128) i hi.x7 hfit
  have ql:decide ((b.toNat:Int)<128)=true:=decide_eq_true (by omega)
  have q9:decide ((i:Int)=9)=false:=decide_eq_false (by omega)
  have q0:decide ((b.toNat:Int)=0)=false:=decide_eq_false (by omega)
  have hA:a+(i+1)=a+rdL q:=by rw [hok];show _=a+(vu _).length;rw [hlen]
  have hV:Value.tuple #[.int .u64 ((x+b.toNat % 128*2 ^ (7*i):Nat):Int),.nilIface]=.tuple #[.int .u64 (rdN q:Nat),errV F (rdE q)]:=by rw [hok];rfl
  repeat' (first|(refine zAd ?_;refine zAc xE cl xP rfl (fun _=>?_))|(refine zAm ?_;refine zAb (zAt rfl e2) ?_)|(refine zBu ?_;refine zAb (zAw rfl c1) ?_)|(refine ek_index ?_;refine zAb (Ev_indexStr rfl rfl (by omega) hbs) ?_)|(refine zBh ?_;first|refine zAb (zAi (r:=((a+i:Nat):Int)) rfl rfl (by omega) (by omega)) ?_|refine zAb (zAi (r:=((a+(i+1):Nat):Int)) rfl rfl (by omega) (by omega)) ?_|refine zAb (zAi (r:=((i+1:Nat):Int)) rfl rfl (by omega) (by omega)) ?_)|(refine ek_mul ?_;refine zAb (Ev_mulI_v (r:=((7*i:Nat):Int)) rfl rfl (by omega) (by omega)) ?_)|(refine ek_and ?_;refine zAb (Ev_and_s rfl rfl (and127 b)) ?_)|(refine ek_or ?_;refine zAb (Ev_or_s rfl rfl orr) ?_)|(refine ek_shl ?_;refine zAb (Ev_shl_t rfl rfl sh) ?_)|(refine zBg ?_;first|refine zAb (zAr rfl rfl qe) ?_|refine zAb (zAr rfl rfl q9) ?_|refine zAb (zAr rfl rfl q0) ?_)|(refine zAq ?_;refine zAb (zAe rfl rfl ql) ?_)|(refine zBf ?_;refine zAb (zAk rfl rfl qb) ?_)|refine xst ?_|(refine xsa ?_;intro _)|(refine xsb ?_ ?_ <;>intro _<;>try (exfalso;omega))|refine xsc ?_|(refine zAa (id:=5) plTCY1 (by kernel_rfl) (by kernel_rfl) ?_)|(refine zAa (id:=6) plTCY2 (by kernel_rfl) (by kernel_rfl) ?_)|(refine zAa (id:=8) plTCY1 (by kernel_rfl) (by kernel_rfl) ?_)|(refine zAa (id:=12) plTCY1 (by kernel_rfl) (by kernel_rfl) ?_)|refine zAp ?_ ?_|refine zAn rfl rfl rfl rfl rfl ?_ ?_|refine zAg ?_ ?_|exact Rech.nil|fail)
  all_goals rw [hA]
  all_goals exact xdn () (hc:=by exact hV)
 ·have hnx:=hi.next hb (by omega) h9.2
  have c1:IntKind.u64.wrap ((b.toNat % 128:Nat):Int)=((b.toNat % 128:Nat):Int):=u64_wrap _ (by omega)
  have hfit:=hi.fit (b:=b) (by omega)
  have sh:=shl7 (b.toNat % 128) i i9 (by omega)
  have orr:=or7 x (b.toNat % 128) i hi.x7 hfit
  have ql:decide ((b.toNat:Int)<128)=false:=decide_eq_false (by omega)
  have q9:decide ((i:Int)=9)=false:=decide_eq_false (by omega)
  repeat' (first|(refine zAd ?_;refine zAc xE cl xP rfl (fun _=>?_))|(refine zAm ?_;refine zAb (zAt rfl e2) ?_)|(refine zBu ?_;refine zAb (zAw rfl c1) ?_)|(refine ek_index ?_;refine zAb (Ev_indexStr rfl rfl (by omega) hbs) ?_)|(refine zBh ?_;first|refine zAb (zAi (r:=((a+i:Nat):Int)) rfl rfl (by omega) (by omega)) ?_|refine zAb (zAi (r:=((a+(i+1):Nat):Int)) rfl rfl (by omega) (by omega)) ?_|refine zAb (zAi (r:=((i+1:Nat):Int)) rfl rfl (by omega) (by omega)) ?_)|(refine ek_mul ?_;refine zAb (Ev_mulI_v (r:=((7*i:Nat):Int)) rfl rfl (by omega) (by omega)) ?_)|(refine ek_and ?_;refine zAb (Ev_and_s rfl rfl (and127 b)) ?_)|(refine ek_or ?_;refine zAb (Ev_or_s rfl rfl orr) ?_)|(refine ek_shl ?_;refine zAb (Ev_shl_t rfl rfl sh) ?_)|(refine zBg ?_;first|refine zAb (zAr rfl rfl qe) ?_|refine zAb (zAr rfl rfl q9) ?_|refine zAb (zAr rfl rfl q0) ?_)|(refine zAq ?_;refine zAb (zAe rfl rfl ql) ?_)|(refine zBf ?_;refine zAb (zAk rfl rfl qb) ?_)|refine xst ?_|(refine xsa ?_;intro _)|(refine xsb ?_ ?_ <;>intro _<;>try (exfalso;omega))|refine xsc ?_|(refine zAa (id:=5) plTCY1 (by kernel_rfl) (by kernel_rfl) ?_)|(refine zAa (id:=6) plTCY2 (by kernel_rfl) (by kernel_rfl) ?_)|(refine zAa (id:=8) plTCY1 (by kernel_rfl) (by kernel_rfl) ?_)|(refine zAa (id:=12) plTCY1 (by kernel_rfl) (by kernel_rfl) ?_)|refine zAp ?_ ?_|refine zAn rfl rfl rfl rfl rfl ?_ ?_|refine zAg ?_ ?_|exact Rech.nil|fail)
  all_goals refine zAv ⟨(i+1,x+b.toNat % 128*2 ^ (7*i)),hnx⟩ (by show 10-(i+1)<10-i;omega) xB (xN)
end
end Go.Proofs.YtgipenahkmbelaaGreatDoor
namespace Go.Proofs.YtgipenahkmbelaaGreatDoor
open Go Go.RowKit
theorem errNe {F : Nat → Addr} {e : Nat} (h : e ≠ 0) : eqOne (.interface #[("Error", 152)]) (errV F e) .nilIface = some false := by rw [errV_pos F e (by omega)]; rfl
def uptE (most:Nat):Rd Nat→Nat
 |.bad e=>e
 |.ok x _=>if most<x then 3 else 0
def uptN (most:Nat):Rd Nat→Nat
 |.bad _=>0
 |.ok x _=>if most<x then 0 else x
def uptL (most:Nat):Rd Nat→Nat
 |.bad _=>0
 |.ok x _=>if most<x then 0 else (vu x).length
section
variable {W:World} {F:Nat→Addr} {p:Nat} {s:List UInt8} {a:Nat}
theorem rdone_ct (ha:a≤s.length) (hs:s.length≤9223372036854775807) (e5:W.cell? ⟨14,0,none⟩=some (errV F 5)) :
 Ct Tryz.prog W 107 [.pointer (some ⟨p,0,none⟩)] [rdP p s a] (fun _:Unit=>errV F (if a<s.length then 5 else 0)) (fun _=>[rdP p s a]):=by
 have cl:=rleft_ct (W:=W) (p:=p) (s:=s) (a:=a) ha (by omega)
 by_cases h:a<s.length
 ·have ql:decide ((0:Int)<((s.length-a:Nat):Int))=true:=decide_eq_true (by omega)
  rw [if_pos h]
  refine Ct.enter Tryz.func107 rfl Tryz.ntmps107 (by simp) (fun R=>?_)
  repeat' (first|(refine zAd ?_;refine zAc xE cl xP rfl (fun _=>?_))|(refine zAm ?_;refine zAb (zAt rfl e5) ?_)|(refine zBf ?_;refine zAb (zAk rfl rfl ql) ?_)|refine xst ?_|(refine xsa ?_;intro _)|(refine xsb ?_ ?_ <;>intro _<;>try (exfalso;omega))|refine xsc ?_|fail)
  all_goals (exact xdn ())
 ·have ql:decide ((0:Int)<((s.length-a:Nat):Int))=false:=decide_eq_false (by omega)
  rw [if_neg h]
  refine Ct.enter Tryz.func107 rfl Tryz.ntmps107 (by simp) (fun R=>?_)
  repeat' (first|(refine zAd ?_;refine zAc xE cl xP rfl (fun _=>?_))|(refine zBf ?_;refine zAb (zAk rfl rfl ql) ?_)|refine xst ?_|(refine xsa ?_;intro _)|(refine xsb ?_ ?_ <;>intro _<;>try (exfalso;omega))|refine xsc ?_|fail)
  all_goals (exact xdn ())
theorem uptoC_ct (br bm most:Nat) (hm:most≤9223372036854775807) (ha:a≤s.length) (hs:s.length≤9223372036854775807) (e1:W.cell? ⟨10,0,none⟩=some (errV F 1)) (e2:W.cell? ⟨11,0,none⟩=some (errV F 2)) (e3:W.cell? ⟨12,0,none⟩=some (errV F 3)) (q:Rd Nat) (hq:ru (s.drop a)=q) :
 Ct Tryz.prog W 140 [.pointer (some ⟨br,0,none⟩),.pointer (some ⟨bm,0,none⟩)] [rdP p s a,zAh br [.pointer (some ⟨p,0,none⟩)] 158,zAh bm [.int .i64 (most:Nat)] 3] (fun _:Unit=>.tuple #[.int .i64 (IntKind.i64.wrap (rdN q:Nat)),errV F (uptE most q)])
  (fun _=>[rdP p s (a+rdL q),zAh br [.pointer (some ⟨p,0,none⟩)] 158,zAh bm [.int .i64 (most:Nat)] 3]):=by
 have cu:=ruint_ct (W:=W) (F:=F) (p:=p) (s:=s) (a:=a) ha hs e1 e2 q hq
 have cm:IntKind.u64.wrap ((most:Nat):Int)=((most:Nat):Int):=u64_wrap _ (by omega)
 have q0:decide ((most:Int)<0)=false:=decide_eq_false (by omega)
 cases q with
 |bad e=>
  have hne:e≠0:=by rcases ru_err hq with h|h <;> omega
  have hn:=errNe (F:=F) hne
  refine Ct.enter Tryz.func140 rfl Tryz.ntmps140 (by simp) (fun R=>?_)
  repeat' (first|(refine zAd ?_;refine zAc xE cu xP rfl (fun _=>?_))|(refine zBg ?_;refine zAb (Ev_eqlNil rfl hn) ?_)|refine xst ?_|(refine xsa ?_;intro _)|(refine xsb ?_ ?_ <;>intro _<;>try (exfalso;omega))|refine xsc ?_|fail)
  all_goals (exact xdn ())
 |ok x t=>
  have hx:=(vu_ru hq).2
  by_cases hl:most<x
  ·have qg:decide (((most:Nat):Int)<((x:Nat):Int))=true:=decide_eq_true (by omega)
   have he:uptE most (.ok x t)=3:=if_pos hl
   rw [he]
   refine Ct.enter Tryz.func140 rfl Tryz.ntmps140 (by simp) (fun R=>?_)
   repeat' (first|(refine zAd ?_;refine zAc xE cu xP rfl (fun _=>?_))|(refine zAm ?_;refine zAb (zAt rfl e3) ?_)|(refine zBu ?_;refine zAb (zAw rfl cm) ?_)|(refine zAq ?_;refine zAb (zAe rfl rfl q0) ?_)|(refine zBf ?_;refine zAb (zAk rfl rfl qg) ?_)|refine xst ?_|(refine xsa ?_;intro _)|(refine xsb ?_ ?_ <;>intro _<;>try (exfalso;omega))|refine xsc ?_|fail)
   all_goals (exact xdn ())
  ·have qg:decide (((most:Nat):Int)<((x:Nat):Int))=false:=decide_eq_false (by omega)
   have he:uptE most (.ok x t)=0:=if_neg hl
   rw [he]
   refine Ct.enter Tryz.func140 rfl Tryz.ntmps140 (by simp) (fun R=>?_)
   repeat' (first|(refine zAd ?_;refine zAc xE cu xP rfl (fun _=>?_))|(refine zBu ?_;refine zAb (zAw rfl cm) ?_)|(refine zAq ?_;refine zAb (zAe rfl rfl q0) ?_)|(refine zBf ?_;refine zAb (zAk rfl rfl qg) ?_)|refine xst ?_|(refine xsa ?_;intro _)|(refine xsb ?_ ?_ <;>intro _<;>try (exfalso;omega))|refine xsc ?_|fail)
   all_goals (exact xdn ())
end
end Go.Proofs.YtgipenahkmbelaaGreatDoor
