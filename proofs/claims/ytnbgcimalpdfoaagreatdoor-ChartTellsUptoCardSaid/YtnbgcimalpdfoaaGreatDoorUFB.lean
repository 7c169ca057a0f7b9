/-
  KsP, KsW1, KsW2, KsW3.
-/
import Derived.Test.YtnbgcimalpdfoaaGreatDoorUCX
import Derived.Test.YtnbgcimalpdfoaaGreatDoorUDG
import Derived.Test.YtnbgcimalpdfoaaGreatDoorUDH
import Derived.Test.YtnbgcimalpdfoaaGreatDoorUDF
import Derived.Test.YtnbgcimalpdfoaaGreatDoorUDC
import Derived.Laws.BytesString
import Derived.Test.YtnbgcimalpdfoaaGreatDoorUCI
set_option maxHeartbeats 64000000
namespace Go.Proofs.YtnbgcimalpdfoaaGreatDoor
open Go Go.RowKit
abbrev plUFB0:Pl:=(.op 0 (.op 1 (.op 3 (.op 4 (.op 5 (.op 6 (.ef 2 [6,5,4,3] (.ef 7 [6,5,4,3] (.op 8 (.op 9 .nil))))))))))
abbrev plUFB1:Pl:=(.op 0 (.op 1 (.op 2 (.op 4 (.op 5 (.ef 3 [5,4] (.ef 6 [5,4] (.op 7 (.op 8 .nil)))))))))
abbrev plUFB2:Pl:=(.op 0 (.op 1 (.op 2 .nil)))
structure KPt where
 num:Bool
 n:Int
 s:List UInt8
 deriving DecidableEq
abbrev kT (s:List UInt8):KPt:=⟨false,0,s⟩
abbrev kN (n:Int):KPt:=⟨true,n,[]⟩
def textP:List UInt8→Option (List UInt8 × List UInt8)
 |[]=>none
 |b::l=>if b≠0 then (textP l).map fun x=>(b::x.1,x.2) else match l with
  |[]=>none
  |c::l'=>if c=255 then (textP l').map fun x=>(0::x.1,x.2) else if c=1 then some ([],l') else none
theorem textP_nz {b:UInt8} {l:List UInt8} (hb:b≠0):textP (b::l)=(textP l).map fun x=>(b::x.1,x.2):=by rw [textP.eq_def];simp [hb]
theorem textP_zz (l:List UInt8):textP (0::255::l)=(textP l).map fun x=>(0::x.1,x.2):=by rw [textP.eq_def];simp
theorem textP_end (l:List UInt8):textP (0::1::l)=some ([],l):=by rw [textP.eq_def];simp
theorem textP_bad {c:UInt8} {l:List UInt8} (h1:c≠255) (h2:c≠1):textP (0::c::l)=none:=by rw [textP.eq_def];simp [h1,h2]
theorem textP_zero:textP [0]=none:=by rw [textP.eq_def];simp
theorem textP_nil:textP []=none:=by rw [textP.eq_def]
theorem textP_esc:∀ (s t:List UInt8),textP (esc s++0::1::t)=some (s,t)
 |[],t=>textP_end t
 |b::s,t=>by
  rw [esc_cons,List.append_assoc]
  by_cases hb:b=0
  ·have e:escB b=[0,255]:=if_pos hb
   rw [e]
   show textP (0::255::(esc s++0::1::t))=_
   rw [textP_zz,textP_esc s t,hb];rfl
  ·have e:escB b=[b]:=if_neg hb
   rw [e]
   show textP (b::(esc s++0::1::t))=_
   rw [textP_nz hb,textP_esc s t];rfl
theorem map_some_iff {α β:Type} {f:α→β} {o:Option α} {b:β} (h:o.map f=some b):∃ a,o=some a∧f a=b:=by
 cases o with
 |none=>cases h
 |some a=>exact ⟨a,rfl,by simpa using h⟩
theorem textP_some:∀ (n:Nat) {l s t:List UInt8},l.length≤n→textP l=some (s,t)→l=esc s++0::1::t
 |_,[],s,t,_,h=>by rw [textP_nil] at h;cases h
 |0,b::l,s,t,hn,h=>by simp at hn
 |n+1,b::l,s,t,hn,h=>by
  rw [List.length_cons] at hn
  by_cases hb:b=0
  ·subst hb
   match l,hn,h with
   |[],_,h=>rw [textP_zero] at h;cases h
   |c::l',hn,h=>
    rw [List.length_cons] at hn
    by_cases h1:c=255
    ·subst h1
     rw [textP_zz] at h
     obtain ⟨x,hx,e⟩:=map_some_iff h
     simp only [Prod.mk.injEq] at e
     have ih:=textP_some n (l:=l') (s:=x.1) (t:=x.2) (by omega) hx
     have e0:escB 0=[0,255]:=if_pos rfl
     rw [← e.1,esc_cons,e0,List.append_assoc,← e.2,← ih];rfl
    ·by_cases h2:c=1
     ·subst h2
      rw [textP_end] at h
      simp only [Option.some.injEq,Prod.mk.injEq] at h
      rw [← h.1,← h.2];rfl
     ·rw [textP_bad h1 h2] at h;cases h
  ·rw [textP_nz hb] at h
   obtain ⟨x,hx,e⟩:=map_some_iff h
   simp only [Prod.mk.injEq] at e
   have ih:=textP_some n (l:=l) (s:=x.1) (t:=x.2) (by omega) hx
   have e0:escB b=[b]:=if_neg hb
   rw [← e.1,esc_cons,e0,List.append_assoc,← e.2,← ih];rfl
def valE (l:List UInt8):Nat:=l.foldl (fun n b=>n*256+b.toNat) 0
theorem valE_snoc (l:List UInt8) (b:UInt8):valE (l++[b])=valE l*256+b.toNat:=by unfold valE;rw [List.foldl_append];rfl
theorem valE_lt:∀ (n:Nat) (l:List UInt8),l.length=n→valE l<256 ^ n
 |0,l,h=>by
  rw [List.length_eq_zero_iff.1 h];decide
 |n+1,l,h=>by
  obtain ⟨m,b,rfl⟩:∃ m b,l=m++[b]:=by
   rcases List.eq_nil_or_concat l with e|⟨m,b,e⟩
   ·rw [e] at h;cases h
   ·exact ⟨m,b,by simpa using e⟩
  have hm:m.length=n:=by rw [List.length_append] at h;simpa using h
  have ih:=valE_lt n m hm
  have hb:=UInt8.toNat_lt b
  rw [valE_snoc,Nat.pow_succ]
  omega
def numK (l:List UInt8):Int:=iT (uT ((valE l:Int)-9223372036854775808))
def firstP:List UInt8→Option (KPt × List UInt8)
 |[]=>none
 |m::l=>if m=1 then (if l.length<8 then none else some (kN (numK (l.take 8)),l.drop 8)) else if m=2 then (textP l).map fun x=>(kT x.1,x.2) else none
theorem firstP_one (l:List UInt8):firstP (1::l)=if l.length<8 then none else some (kN (numK (l.take 8)),l.drop 8):=rfl
theorem firstP_two (l:List UInt8):firstP (2::l)=(textP l).map fun x=>(kT x.1,x.2):=rfl
theorem firstP_else {m:UInt8} {l:List UInt8} (h1:m≠1) (h2:m≠2):firstP (m::l)=none:=by
 unfold firstP
 dsimp only
 rw [if_neg h1,if_neg h2]
theorem firstP_short {k t:List UInt8} {p:KPt} (h:firstP k=some (p,t)):t.length<k.length:=by
 match k,h with
 |m::l,h=>
  by_cases h1:m=1
  ·subst h1
   rw [firstP_one] at h
   split at h
   ·cases h
   ·cases h
    rw [List.length_drop,List.length_cons];omega
  ·by_cases h2:m=2
   ·subst h2
    rw [firstP_two] at h
    obtain ⟨x,hx,e⟩:=map_some_iff h
    simp only [Prod.mk.injEq] at e
    have:=congrArg List.length (textP_some _ (l:=l) (s:=x.1) (t:=x.2) (Nat.le_refl _) hx)
    rw [List.length_append,List.length_cons,List.length_cons] at this
    rw [List.length_cons,← e.2];omega
   ·rw [firstP_else h1 h2] at h;cases h
def splitF:Nat→List UInt8→Option (List KPt)
 |_,[]=>some []
 |0,_::_=>none
 |f+1,m::l=>match firstP (m::l) with
  |none=>none
  |some x=>(splitF f x.2).map (x.1 :: ·)
def zCd (k:List UInt8):Option (List KPt):=splitF k.length k
theorem splitF_any:∀ (f g:Nat) (k:List UInt8),k.length≤f→k.length≤g→splitF f k=splitF g k
 |0,g,k,hf,_=>by
  obtain rfl:k=[]:=List.length_eq_zero_iff.1 (by omega)
  cases g <;> rfl
 |f+1,0,k,_,hg=>by
  obtain rfl:k=[]:=List.length_eq_zero_iff.1 (by omega)
  rfl
 |f+1,g+1,[],_,_=>rfl
 |f+1,g+1,m::l,hf,hg=>by
  unfold splitF
  cases h:firstP (m::l) with
  |none=>rfl
  |some x=>
   have hs:=firstP_short (p:=x.1) (t:=x.2) h
   dsimp only
   rw [splitF_any f g x.2 (by omega) (by omega)]
theorem splitP_nil:zCd []=some []:=rfl
theorem splitP_none {k:List UInt8} (hk:k≠[]) (h:firstP k=none):zCd k=none:=by
 match k,hk with
 |m::l,_=>
  show splitF (l.length+1) (m::l)=none
  unfold splitF
  rw [h]
theorem splitP_some {k t:List UInt8} {p:KPt} (h:firstP k=some (p,t)):zCd k=(zCd t).map (p :: ·):=by
 match k,h with
 |m::l,h=>
  have hs:=firstP_short h
  show splitF (l.length+1) (m::l)=_
  rw [splitF,h]
  dsimp only
  rw [splitF_any l.length t.length t (by rw [List.length_cons] at hs;omega) (Nat.le_refl _)]
  rfl
theorem firstP_text (s t:List UInt8):firstP (keyT s++t)=some (kT s,t):=by
 have e:keyT s++t=2::(esc s++0::1::t):=by unfold keyT;simp
 rw [e,firstP_two,textP_esc];rfl
theorem firstP_kT {k t s:List UInt8} (h:firstP k=some (kT s,t)):k=keyT s++t:=by
 match k,h with
 |m::l,h=>
  by_cases h1:m=1
  ·subst h1
   rw [firstP_one] at h
   split at h
   ·cases h
   ·simp at h
  ·by_cases h2:m=2
   ·subst h2
    rw [firstP_two] at h
    obtain ⟨x,hx,e⟩:=map_some_iff h
    simp only [Prod.mk.injEq,KPt.mk.injEq,true_and] at e
    rw [textP_some _ (l:=l) (s:=x.1) (t:=x.2) (Nat.le_refl _) hx,e.1,e.2]
    unfold keyT;simp
   ·rw [firstP_else h1 h2] at h;cases h
theorem splitP_two {k a s:List UInt8} (h:zCd k=some [kT a,kT s]):k=keyT a++keyT s:=by
 cases hk:firstP k with
 |none=>
  by_cases he:k=[]
  ·rw [he,splitP_nil] at h;cases h
  ·rw [splitP_none he hk] at h;cases h
 |some x=>
  rw [splitP_some (p:=x.1) (t:=x.2) hk] at h
  cases h2:zCd x.2 with
  |none=>rw [h2] at h;cases h
  |some L=>
   rw [h2] at h
   have h:some (x.1::L)=some [kT a,kT s]:=h
   simp only [Option.some.injEq,List.cons.injEq] at h
   obtain ⟨e1,e2⟩:=h
   subst e2
   cases hk2:firstP x.2 with
   |none=>
    by_cases he:x.2=[]
    ·rw [he,splitP_nil] at h2;cases h2
    ·rw [splitP_none he hk2] at h2;cases h2
   |some y=>
    rw [splitP_some (p:=y.1) (t:=y.2) hk2] at h2
    cases h3:zCd y.2 with
    |none=>rw [h3] at h2;cases h2
    |some M=>
     rw [h3] at h2
     have h2:some (y.1::M)=some [kT s]:=h2
     simp only [Option.some.injEq,List.cons.injEq] at h2
     obtain ⟨f1,f2⟩:=h2
     subst f2
     have hy:y.2=[]:=by
      cases hk3:firstP y.2 with
      |none=>
       by_cases he:y.2=[]
       ·exact he
       ·rw [splitP_none he hk3] at h3;cases h3
      |some z=>
       rw [splitP_some (p:=z.1) (t:=z.2) hk3] at h3
       cases h4:zCd z.2 with
       |none=>rw [h4] at h3;cases h3
       |some N=>rw [h4] at h3;cases h3
     have q1:=firstP_kT (k:=k) (t:=x.2) (s:=a) (by rw [hk,← e1])
     have q2:=firstP_kT (k:=x.2) (t:=y.2) (s:=s) (by rw [hk2,← f1])
     rw [q1,q2,hy,List.append_nil]
end Go.Proofs.YtnbgcimalpdfoaaGreatDoor
namespace Go.Proofs.YtnbgcimalpdfoaaGreatDoor
open Go Go.RowKit
def kqC (p:KPt):List Value:=[.bool p.num,.int .i64 p.n,strV p.s]
theorem kq_ok:EncOk kqC 3:=⟨fun _=>rfl,fun x=>by unfold kqC;exact xO,by omega⟩
abbrev kqV (p:KPt):Value:=.agg (kqC p).toArray
abbrev kp0:KPt:=⟨false,0,[]⟩
def partV (o:Option (KPt × List UInt8)):Value:=match o with
 |none=>.tuple #[kqV kp0,strV [],.bool false]
 |some x=>.tuple #[kqV x.1,strV x.2,.bool true]
theorem Ev_bytesZ {P:Program} {W:World} {n:Nat} {E:Env} {H:List SP} {s u e:TypeId} {x:Operand} {a:Option Addr} {c:Nat} (hx:Env.ev E x=some (.slice a 0 c)) [hs:UIs P s (.slice e)] [he:UIs P e (.int .u8)] [hd:UIs P u .string]:Ev P W n E H (.convert s u x) (strV []):=
 Ev.mk fun o ho ac w p q=>by
  have hr:(convert s u (.slice a 0 c)).run P w=.ok (.string ByteArray.empty) w:=by
   rw [run_convert_bytes_string w s u e _ 0 c hs.h he.h hd.h]
   cases a <;> simp [Conv.bytesToString,loadCells]
   all_goals rfl
  simp only [execOp,ho,p.ev hx,Sem.run_bind,hr,Result.andThen_ok,Sem.run_pure]
  rfl
theorem shlx8 {x:Nat} (hx:x*256<18446744073709551616):ShlF .u64 (x:Int) 8 ((x*256:Nat):Int):=shl8 x 1 (by omega) hx
theorem orx8 {x b:Nat} (hb:b<256) (hx:x*256+b<18446744073709551616):OrF .u64 ((x*256:Nat):Int) (b:Int) ((x*256+b:Nat):Int):=by
 refine ⟨?_⟩
 have hor:x*256 ||| b=x*256+b:=by rw [Nat.mul_comm,← Nat.two_pow_add_eq_or_of_lt (i:=8) (show b<2 ^ 8 from hb)]
 have e:bits .or .u64 ((x*256:Nat):Int) (b:Int)=IntKind.u64.wrap ((BitVec.ofInt 64 ((x*256:Nat):Int) ||| BitVec.ofInt 64 (b:Int)).toNat:Int):=rfl
 have b1:(BitVec.ofInt 64 ((x*256:Nat):Int)).toNat=x*256:=by rw [BitVec.toNat_ofInt];omega
 have b2:(BitVec.ofInt 64 (b:Int)).toNat=b:=by rw [BitVec.toNat_ofInt];omega
 rw [e,BitVec.toNat_or,b1,b2,hor]
 exact zCc _ hx
theorem valE_next {l:List UInt8} {i:Nat} {b:UInt8} (h:l[i]? = some b):valE (l.take (i+1))=valE (l.take i)*256+b.toNat:=by
 rw [List.take_add_one,h]
 exact valE_snoc _ _
theorem drop_b {s:List UInt8} {i:Nat} {b:UInt8} (h:s[i]? = some b):s.drop i=b::s.drop (i+1):=by
 obtain ⟨hi,e⟩:=List.getElem?_eq_some_iff.1 h
 rw [List.drop_eq_getElem_cons hi,e]
section
variable {W:World} {F:Nat→Addr}
instance fn_knumber:FnIs Tryz.prog 191:=⟨by kernel_rfl⟩
instance fn_ktextp:FnIs Tryz.prog 192:=⟨by kernel_rfl⟩
instance fn_kfirst:FnIs Tryz.prog 140:=⟨by kernel_rfl⟩
instance fn_ksplit:FnIs Tryz.prog 93:=⟨by kernel_rfl⟩
theorem knumber_ct (x:Int):Ct Tryz.prog W 191 [.int .i64 x] [] (fun _:Unit=>kqV (kN x)) (fun _=>[]):=by
 refine Ct.enter Tryz.func191 rfl Tryz.ntmps191 (by simp) (fun R=>?_)
 repeat' (first|(refine zBd ?_;refine zAz rfl (fun g=>?_))|(refine zBb ?_;refine zAa (zBc xV xW) ?_)|refine xst ?_|(refine xsa ?_;intro _)|(refine xsb ?_ ?_ <;>intro _<;>try (exfalso;omega))|refine xsc ?_|fail)
 all_goals (refine is_ex ?_;exact zBq (by first|exact Or.inl rfl|exact Or.inr rfl) rfl (Rvs.agg (T:=94) rfl inferInstance inferInstance xS xC Rvs.nil) () (by rfl) (xN))
theorem ktextp_ct (s:List UInt8) (hs:s.length≤140737488355000):Ct Tryz.prog W 192 [strV s] [] (fun _:Unit=>partV ((textP s).map fun x=>(kT x.1,x.2))) (fun _=>[]):=by
 obtain ⟨V,hV⟩:∃ V,V=partV ((textP s).map fun x=>(kT x.1,x.2)):=⟨_,rfl⟩
 rw [← hV]
 have hno:textP s=none→V=.tuple #[kqV kp0,strV [],.bool false]:=fun h=>by rw [hV,h];rfl
 have hyes:∀ a t,textP s=some (a,t)→V=.tuple #[kqV (kT a),strV t,.bool true]:=fun a t h=>by rw [hV,h];rfl
 refine Ct.enter Tryz.func192 rfl Tryz.ntmps192 (by simp) (fun R=>?_)
 repeat' (first|(refine zBd ?_;refine zAz rfl (fun g2=>?_))|refine xst ?_|(refine xsa ?_;intro _)|(refine xsb ?_ ?_ <;>intro _<;>try (exfalso;omega))|refine xsc ?_|(refine zAb (id:=14) plUFB0 (by kernel_rfl) (by kernel_rfl) ?_)|refine zAj ?_ ?_|refine zAi rfl rfl rfl rfl rfl ?_ ?_|refine zAf ?_ ?_|exact Rech.nil|fail)
 refine KJ.nilrow 5 1 ?_
 refine zBm (fun x:{x:Nat × List UInt8 × Option Addr × Nat//x.1≤s.length∧x.2.1.length≤x.1∧textP s=(textP (s.drop x.1)).map fun y=>(x.2.1++y.1,y.2)}=>[(0,strV s),(2,.pointer (some ⟨g2,0,none⟩)),(5,.slice x.1.2.2.1 x.1.2.1.length x.1.2.2.2),(6,.int .i64 (x.1.1:Nat))])
  (fun x=>[zAk g2 (kqC kp0) 94,byP (.slice x.1.2.2.1 x.1.2.1.length x.1.2.2.2) x.1.2.1]++R) (fun x=>s.length-x.1.1) ⟨(0,[],none,0),Nat.zero_le _,Nat.zero_le _,by rw [List.drop_zero];cases textP s <;> rfl⟩ xB (xN) (fun ⟨(i,O,oa,oc),hi,hO,hp⟩=>?_)
 dsimp only at hi hO hp ⊢
 by_cases hlt:i<s.length
 rotate_left
 ·have ql:decide ((i:Int)<(s.length:Nat))=false:=decide_eq_false (by omega)
  rw [List.drop_of_length_le (by omega),textP_nil] at hp
  rw [hno hp]
  repeat' (first|(refine zBb ?_;refine zAa (zBc xV xW) ?_)|(refine zAm ?_;refine zAa (zAe rfl rfl ql) ?_)|refine xst ?_|(refine xsa ?_;intro _)|(refine xsb ?_ ?_ <;>intro _<;>try (exfalso;omega))|refine xsc ?_|(refine zAb (id:=14) plUFB0 (by kernel_rfl) (by kernel_rfl) ?_)|refine zAj ?_ ?_|refine zAi rfl rfl rfl rfl rfl ?_ ?_|refine zAf ?_ ?_|exact Rech.nil|fail)
  all_goals (refine is_ex ?_;exact zBq (by first|exact Or.inl rfl|exact Or.inr rfl) rfl (Rvs.agg (T:=94) rfl inferInstance inferInstance xS xC (Rvs.tmp rfl (Rvs.tmp rfl Rvs.nil))) () (by rfl) (xN))
 have ql:decide ((i:Int)<(s.length:Nat))=true:=decide_eq_true (by omega)
 obtain ⟨b,hb⟩:∃ b,s[i]? = some b:=⟨_,List.getElem?_eq_getElem hlt⟩
 have hb':s[(i:Int).toNat]? = some b:=by rw [Int.toNat_natCast];exact hb
 rw [drop_b hb] at hp
 have m1:(O.length+1)*1≤140737488355328:=by omega
 have m2:O.length+1≤9223372036854775807:=by omega
 by_cases hz:b=0
 rotate_left
 ·have qz:decide (((b.toNat:Nat):Int)≠0)=true:=decide_eq_true (by
   intro h
   exact hz (UInt8.toNat_inj.1 (by simpa using h)))
  rw [textP_nz hz,Option.map_map] at hp
  have hp':textP s=(textP (s.drop (i+1))).map fun y=>((O++[b])++y.1,y.2):=by
   rw [hp]
   congr 1
   funext y
   show (O++b::y.1,y.2)=_
   simp
  have hOl:(O++[b]).length≤i+1:=by rw [List.length_append];simp;omega
  repeat' (first|(refine zBp ?_;refine zBx (l:=O) (a:=b) byC_ok rfl rfl rfl xS xS m1 m2 rfl (fun g' c'=>?_))|(refine zBa ?_;refine zBh rfl xF (by rfl) (by omega) rfl (fun gb=>?_))|(refine zAy ?_;refine zAa (zAp rfl rfl (by omega) hb') ?_)|(refine zAw ?_;refine zAa (zAg (r:=((i+1:Nat):Int)) rfl rfl (by omega) (by omega)) ?_)|(refine zAx ?_;refine zAa (zBk rfl rfl qz) ?_)|(refine zAm ?_;refine zAa (zAe rfl rfl ql) ?_)|refine xst ?_|(refine xsa ?_;intro _)|(refine xsb ?_ ?_ <;>intro _<;>try (exfalso;omega))|refine xsc ?_|(refine zAb (id:=14) plUFB0 (by kernel_rfl) (by kernel_rfl) ?_)|refine zAj ?_ ?_|refine zAi rfl rfl rfl rfl rfl ?_ ?_|refine zAf ?_ ?_|exact Rech.nil|fail)
  all_goals refine zAu ⟨(i+1,O++[b],some ⟨g',0,none⟩,c'),hlt,hOl,hp'⟩ (by show s.length-(i+1)<s.length-i;omega) xB (xN)
 subst hz
 have qz:decide ((((0:UInt8).toNat:Nat):Int)≠0)=false:=rfl
 by_cases hlt2:i+1<s.length
 rotate_left
 ·have q2:decide (((i+1:Nat):Int)=((s.length:Nat):Int))=true:=decide_eq_true (by omega)
  rw [List.drop_of_length_le (by omega),textP_zero] at hp
  rw [hno hp]
  repeat' (first|(refine zAy ?_;refine zAa (zAp rfl rfl (by omega) hb') ?_)|(refine zBb ?_;refine zAa (zBc xV xW) ?_)|(refine zAw ?_;refine zAa (zAg (r:=((i+1:Nat):Int)) rfl rfl (by omega) (by omega)) ?_)|(refine zAv ?_;refine zAa (zAh rfl rfl q2) ?_)|(refine zAx ?_;refine zAa (zBk rfl rfl qz) ?_)|(refine zAm ?_;refine zAa (zAe rfl rfl ql) ?_)|refine xst ?_|(refine xsa ?_;intro _)|(refine xsb ?_ ?_ <;>intro _<;>try (exfalso;omega))|refine xsc ?_|(refine zAb (id:=14) plUFB0 (by kernel_rfl) (by kernel_rfl) ?_)|refine zAj ?_ ?_|refine zAi rfl rfl rfl rfl rfl ?_ ?_|refine zAf ?_ ?_|exact Rech.nil|fail)
  all_goals (refine is_ex ?_;exact zBq (by first|exact Or.inl rfl|exact Or.inr rfl) rfl (Rvs.agg (T:=94) rfl inferInstance inferInstance xS xC (Rvs.tmp rfl (Rvs.tmp rfl Rvs.nil))) () (by rfl) (xN))
 have q2:decide (((i+1:Nat):Int)=((s.length:Nat):Int))=false:=decide_eq_false (by omega)
 obtain ⟨d,hd⟩:∃ d,s[i+1]? = some d:=⟨_,List.getElem?_eq_getElem hlt2⟩
 have hd':s[((i+1:Nat):Int).toNat]? = some d:=by rw [Int.toNat_natCast];exact hd
 rw [drop_b hd] at hp
 by_cases h255:d=255
 ·subst h255
  have q3:decide ((((255:UInt8).toNat:Nat):Int)=255)=true:=rfl
  rw [textP_zz,Option.map_map] at hp
  have hp':textP s=(textP (s.drop (i+2))).map fun y=>((O++[0])++y.1,y.2):=by
   rw [hp]
   congr 1
   funext y
   show (O++0::y.1,y.2)=_
   simp
  have hOl:(O++[0]).length≤i+2:=by rw [List.length_append];simp;omega
  repeat' (first|(refine zBp ?_;refine zBx (l:=O) (a:=(0:UInt8)) byC_ok rfl rfl rfl xS xS m1 m2 rfl (fun g' c'=>?_))|(refine zBa ?_;refine zBh rfl xF (by rfl) (by omega) rfl (fun gb=>?_))|(refine zAy ?_;first|refine zAa (zAp rfl rfl (by omega) hb') ?_|refine zAa (zAp rfl rfl (by omega) hd') ?_)|(refine zAw ?_;first|refine zAa (zAg (r:=((i+1:Nat):Int)) rfl rfl (by omega) (by omega)) ?_|refine zAa (zAg (r:=((i+2:Nat):Int)) rfl rfl (by omega) (by omega)) ?_)|(refine zAv ?_;first|refine zAa (zAh rfl rfl q2) ?_|refine zAa (zAh rfl rfl q3) ?_)|(refine zAx ?_;refine zAa (zBk rfl rfl qz) ?_)|(refine zAm ?_;refine zAa (zAe rfl rfl ql) ?_)|refine xst ?_|(refine xsa ?_;intro _)|(refine xsb ?_ ?_ <;>intro _<;>try (exfalso;omega))|refine xsc ?_|(refine zAb (id:=14) plUFB0 (by kernel_rfl) (by kernel_rfl) ?_)|refine zAj ?_ ?_|refine zAi rfl rfl rfl rfl rfl ?_ ?_|refine zAf ?_ ?_|exact Rech.nil|fail)
  all_goals refine zAu ⟨(i+2,O++[0],some ⟨g',0,none⟩,c'),hlt2,hOl,hp'⟩ (by show s.length-(i+2)<s.length-i;omega) xB (xN)
 have q3:decide (((d.toNat:Nat):Int)=255)=false:=decide_eq_false (by
  intro h
  exact h255 (UInt8.toNat_inj.1 (by show d.toNat=255;omega)))
 by_cases h1:d=1
 rotate_left
 ·have q4:decide (((d.toNat:Nat):Int)=1)=false:=decide_eq_false (by
   intro h
   exact h1 (UInt8.toNat_inj.1 (by show d.toNat=1;omega)))
  rw [textP_bad h255 h1] at hp
  rw [hno hp]
  repeat' (first|(refine zAy ?_;first|refine zAa (zAp rfl rfl (by omega) hb') ?_|refine zAa (zAp rfl rfl (by omega) hd') ?_)|(refine zBb ?_;refine zAa (zBc xV xW) ?_)|(refine zAw ?_;refine zAa (zAg (r:=((i+1:Nat):Int)) rfl rfl (by omega) (by omega)) ?_)|(refine zAv ?_;first|refine zAa (zAh rfl rfl q2) ?_|refine zAa (zAh rfl rfl q3) ?_|refine zAa (zAh rfl rfl q4) ?_)|(refine zAx ?_;refine zAa (zBk rfl rfl qz) ?_)|(refine zAm ?_;refine zAa (zAe rfl rfl ql) ?_)|refine xst ?_|(refine xsa ?_;intro _)|(refine xsb ?_ ?_ <;>intro _<;>try (exfalso;omega))|refine xsc ?_|(refine zAb (id:=14) plUFB0 (by kernel_rfl) (by kernel_rfl) ?_)|refine zAj ?_ ?_|refine zAi rfl rfl rfl rfl rfl ?_ ?_|refine zAf ?_ ?_|exact Rech.nil|fail)
  all_goals (refine is_ex ?_;exact zBq (by first|exact Or.inl rfl|exact Or.inr rfl) rfl (Rvs.agg (T:=94) rfl inferInstance inferInstance xS xC (Rvs.tmp rfl (Rvs.tmp rfl Rvs.nil))) () (by rfl) (xN))
 subst h1
 have q4:decide ((((1:UInt8).toNat:Nat):Int)=1)=true:=rfl
 rw [textP_end] at hp
 have hp:textP s=some (O,s.drop (i+2)):=by rw [hp];simp
 rw [hyes _ _ hp]
 have ck:=ktext_ct (W:=W) O
 have ck:Ct Tryz.prog W 65 [strV O] [] (fun _:Unit=>kqV (kT O)) (fun _=>[]):=ck
 have v2:(0:Int)≤((i+2:Nat):Int)∧((i+2:Nat):Int)≤((s.length:Nat):Int):=by omega
 have hdr:s.drop ((i+2:Nat):Int).toNat=s.drop (i+2):=by rw [Int.toNat_natCast]
 obtain ⟨t,ht⟩:∃ t,t=s.drop (i+2):=⟨_,rfl⟩
 rw [← ht] at hdr ⊢
 clear hp hV hno hyes ht
 by_cases hO0:0<O.length
 ·refine KJ.lsSome xS hO0 (fun g9 hg9=>?_)
  subst hg9
  repeat' (first|(refine zAd ?_;refine zAc xE ck xP rfl (fun _=>?_))|(refine zBe ?_;refine zAa (Ev_bytesB rfl xS rfl) ?_)|(refine zAy ?_;first|refine zAa (zAp rfl rfl (by omega) hb') ?_|refine zAa (zAp rfl rfl (by omega) hd') ?_)|(refine zCf ?_;refine zAa (Ev_sliceFrom_p rfl rfl v2 hdr) ?_)|(refine zAw ?_;first|refine zAa (zAg (r:=((i+1:Nat):Int)) rfl rfl (by omega) (by omega)) ?_|refine zAa (zAg (r:=((i+2:Nat):Int)) rfl rfl (by omega) (by omega)) ?_)|(refine zAv ?_;first|refine zAa (zAh rfl rfl q2) ?_|refine zAa (zAh rfl rfl q3) ?_|refine zAa (zAh rfl rfl q4) ?_)|(refine zAx ?_;refine zAa (zBk rfl rfl qz) ?_)|(refine zAm ?_;refine zAa (zAe rfl rfl ql) ?_)|refine xst ?_|(refine xsa ?_;intro _)|(refine xsb ?_ ?_ <;>intro _<;>try (exfalso;omega))|refine xsc ?_|(refine zAb (id:=14) plUFB0 (by kernel_rfl) (by kernel_rfl) ?_)|refine zAj ?_ ?_|refine zAi rfl rfl rfl rfl rfl ?_ ?_|refine zAf ?_ ?_|exact Rech.nil|fail)
  all_goals (refine is_ex ?_;exact zBq (by first|exact Or.inl rfl|exact Or.inr rfl) rfl (Rvs.agg (T:=94) rfl inferInstance inferInstance xS xC (Rvs.tmp rfl (Rvs.tmp rfl Rvs.nil))) () (by rfl) (xN))
 ·obtain rfl:O=[]:=List.length_eq_zero_iff.1 (by omega)
  repeat' (first|(refine zAd ?_;refine zAc xE ck xP rfl (fun _=>?_))|(refine zBe ?_;refine zAa (Ev_bytesZ rfl) ?_)|(refine zAy ?_;first|refine zAa (zAp rfl rfl (by omega) hb') ?_|refine zAa (zAp rfl rfl (by omega) hd') ?_)|(refine zCf ?_;refine zAa (Ev_sliceFrom_p rfl rfl v2 hdr) ?_)|(refine zAw ?_;first|refine zAa (zAg (r:=((i+1:Nat):Int)) rfl rfl (by omega) (by omega)) ?_|refine zAa (zAg (r:=((i+2:Nat):Int)) rfl rfl (by omega) (by omega)) ?_)|(refine zAv ?_;first|refine zAa (zAh rfl rfl q2) ?_|refine zAa (zAh rfl rfl q3) ?_|refine zAa (zAh rfl rfl q4) ?_)|(refine zAx ?_;refine zAa (zBk rfl rfl qz) ?_)|(refine zAm ?_;refine zAa (zAe rfl rfl ql) ?_)|refine xst ?_|(refine xsa ?_;intro _)|(refine xsb ?_ ?_ <;>intro _<;>try (exfalso;omega))|refine xsc ?_|(refine zAb (id:=14) plUFB0 (by kernel_rfl) (by kernel_rfl) ?_)|refine zAj ?_ ?_|refine zAi rfl rfl rfl rfl rfl ?_ ?_|refine zAf ?_ ?_|exact Rech.nil|fail)
  all_goals (refine is_ex ?_;exact zBq (by first|exact Or.inl rfl|exact Or.inr rfl) rfl (Rvs.agg (T:=94) rfl inferInstance inferInstance xS xC (Rvs.tmp rfl (Rvs.tmp rfl Rvs.nil))) () (by rfl) (xN))
end
end Go.Proofs.YtnbgcimalpdfoaaGreatDoor
namespace Go.Proofs.YtnbgcimalpdfoaaGreatDoor
open Go Go.RowKit
section
variable {W:World} {F:Nat→Addr}
set_option maxRecDepth 100000 in
theorem kfirst_ct (m:UInt8) (l:List UInt8) (hs:l.length≤140737488350000):Ct Tryz.prog W 140 [strV (m::l)] [] (fun _:Unit=>partV (firstP (m::l))) (fun _=>[]):=by
 obtain ⟨s,hS⟩:∃ s,s=m::l:=⟨_,rfl⟩
 have hl:s.length=l.length+1:=by rw [hS];rfl
 have h0:s[(0:Int).toNat]? = some m:=by rw [hS];rfl
 have hdrop:∀ j,s.drop (j+1)=l.drop j:=fun j=>by rw [hS];rfl
 rw [← hS]
 by_cases h1:m=1
 ·subst h1
  have q1:decide ((((1:UInt8).toNat:Nat):Int)=1)=true:=rfl
  rw [hS,firstP_one,← hS]
  by_cases h8:l.length<8
  ·rw [if_pos h8]
   have q2:decide (((s.length:Nat):Int)<9)=true:=decide_eq_true (by omega)
   show Ct Tryz.prog W 140 [strV s] [] (fun _:Unit=>.tuple #[kqV kp0,strV [],.bool false]) (fun _=>[])
   refine Ct.enter Tryz.func140 rfl Tryz.ntmps140 (by simp) (fun R=>?_)
   repeat' (first|(refine zAy ?_;refine zAa (zAp rfl rfl (by omega) h0) ?_)|(refine zBb ?_;refine zAa (zBc xV xW) ?_)|(refine zAv ?_;refine zAa (zAh rfl rfl q1) ?_)|(refine zAm ?_;refine zAa (zAe rfl rfl q2) ?_)|refine xst ?_|(refine xsa ?_;intro _)|(refine xsb ?_ ?_ <;>intro _<;>try (exfalso;omega))|refine xsc ?_|(refine zAb (id:=10) plUFB1 (by kernel_rfl) (by kernel_rfl) ?_)|refine zAj ?_ ?_|refine zAi rfl rfl rfl rfl rfl ?_ ?_|refine zAf ?_ ?_|exact Rech.nil|fail)
   all_goals (refine is_ex ?_;exact zBq (by first|exact Or.inl rfl|exact Or.inr rfl) rfl (Rvs.agg (T:=94) rfl inferInstance inferInstance xS xC (Rvs.tmp rfl (Rvs.tmp rfl Rvs.nil))) () (by rfl) (xN))
  rw [if_neg h8]
  have q2:decide (((s.length:Nat):Int)<9)=false:=decide_eq_false (by omega)
  refine Ct.enter Tryz.func140 rfl Tryz.ntmps140 (by simp) (fun R=>?_)
  repeat' (first|(refine zBd ?_;refine zAz rfl (fun g2=>?_))|(refine zAy ?_;refine zAa (zAp rfl rfl (by omega) h0) ?_)|(refine zAv ?_;refine zAa (zAh rfl rfl q1) ?_)|(refine zAm ?_;refine zAa (zAe rfl rfl q2) ?_)|refine xst ?_|(refine xsa ?_;intro _)|(refine xsb ?_ ?_ <;>intro _<;>try (exfalso;omega))|refine xsc ?_|(refine zAb (id:=10) plUFB1 (by kernel_rfl) (by kernel_rfl) ?_)|refine zAj ?_ ?_|refine zAi rfl rfl rfl rfl rfl ?_ ?_|refine zAf ?_ ?_|exact Rech.nil|fail)
  refine zBm (fun x:{x:Nat × Nat//x.1≤8∧x.2=valE (l.take x.1)}=>[(0,strV s),(2,.pointer (some ⟨g2,0,none⟩)),(5,.int .u64 (x.1.2:Nat)),(6,.int .i64 (x.1.1+1:Nat))])
   (fun _=>[zAk g2 (kqC kp0) 94]++R) (fun x=>8-x.1.1) ⟨(0,0),by omega,rfl⟩ xB (xN) (fun ⟨(i,x),hi,hx⟩=>?_)
  dsimp only at hi hx ⊢
  by_cases hlt:i<8
  ·have q3:decide (((i+1:Nat):Int)<9)=true:=decide_eq_true (by omega)
   obtain ⟨b,hb⟩:∃ b,l[i]? = some b:=⟨_,List.getElem?_eq_getElem (by omega)⟩
   have hbs:s[((i+1:Nat):Int).toNat]? = some b:=by rw [Int.toNat_natCast,hS];exact hb
   have hbt:=UInt8.toNat_lt b
   have hnx:=valE_next hb
   rw [← hx] at hnx
   have hvl:=valE_lt (i+1) (l.take (i+1)) (by rw [List.length_take];omega)
   rw [hnx] at hvl
   have hp:(256:Nat) ^ (i+1)≤256 ^ 8:=Nat.pow_le_pow_right (by omega) (by omega)
   have hp2:(256:Nat) ^ 8=18446744073709551616:=by decide
   have hxx:x*256+b.toNat<18446744073709551616:=by omega
   have sh:=shlx8 (x:=x) (by omega)
   have orr:=orx8 (x:=x) (b:=b.toNat) hbt hxx
   have c1:IntKind.u64.wrap ((b.toNat:Nat):Int)=((b.toNat:Nat):Int):=zCc _ (by omega)
   clear hp hp2 hvl
   repeat' (first|(refine zBe ?_;refine zAa (zAs rfl c1) ?_)|(refine zAy ?_;refine zAa (zAp rfl rfl (by omega) hbs) ?_)|(refine zAw ?_;refine zAa (zAg (r:=((i+1+1:Nat):Int)) rfl rfl (by omega) (by omega)) ?_)|(refine ek_or ?_;refine zAa (Ev_or_s rfl rfl orr) ?_)|(refine ek_shl ?_;refine zAa (Ev_shl_t rfl rfl sh) ?_)|(refine zAm ?_;refine zAa (zAe rfl rfl q3) ?_)|refine xst ?_|(refine xsa ?_;intro _)|(refine xsb ?_ ?_ <;>intro _<;>try (exfalso;omega))|refine xsc ?_|(refine zAb (id:=10) plUFB1 (by kernel_rfl) (by kernel_rfl) ?_)|refine zAj ?_ ?_|refine zAi rfl rfl rfl rfl rfl ?_ ?_|refine zAf ?_ ?_|exact Rech.nil|fail)
   all_goals refine zAu ⟨(i+1,x*256+b.toNat),hlt,hnx.symm⟩ (by show 8-(i+1)<8-i;omega) xB (xN)
  ·have q3:decide (((i+1:Nat):Int)<9)=false:=decide_eq_false (by omega)
   obtain rfl:i=8:=by omega
   have w1:IntKind.u64.wrap ((x:Int)-9223372036854775808)=((uT ((x:Int)-9223372036854775808):Nat):Int):=u64_uT _
   have w2:=i64_iT (uT_lt ((x:Int)-9223372036854775808))
   have hnum:numK (l.take 8)=iT (uT ((x:Int)-9223372036854775808)):=by unfold numK;rw [← hx]
   rw [hnum]
   obtain ⟨y,hy⟩:∃ y,y=iT (uT ((x:Int)-9223372036854775808)):=⟨_,rfl⟩
   rw [← hy] at w2 ⊢
   have ck:=knumber_ct (W:=W) y
   have v2:(0:Int)≤9∧(9:Int)≤((s.length:Nat):Int):=by omega
   have hdr:s.drop (9:Int).toNat=l.drop 8:=hdrop 8
   show KJ W _ _ _ _
   obtain ⟨t,ht⟩:∃ t,t=l.drop 8:=⟨_,rfl⟩
   rw [← ht] at hdr
   have hV:partV (some (kN y,l.drop 8))=.tuple #[kqV (kN y),strV t,.bool true]:=by rw [ht];rfl
   rw [hV]
   obtain ⟨z,hz⟩:∃ z,z=uT ((x:Int)-9223372036854775808):=⟨_,rfl⟩
   rw [← hz] at w1 w2
   clear hV ht hy hnum hz
   repeat' (first|(refine zAd ?_;refine zAc xE ck xP rfl (fun _=>?_))|(refine zBe ?_;refine zAa (zAs rfl w2) ?_)|(refine zCf ?_;refine zAa (Ev_sliceFrom_p rfl rfl v2 hdr) ?_)|(refine ek_sub ?_;refine zAa (Ev_sub_w rfl rfl w1) ?_)|(refine zAm ?_;refine zAa (zAe rfl rfl q3) ?_)|refine xst ?_|(refine xsa ?_;intro _)|(refine xsb ?_ ?_ <;>intro _<;>try (exfalso;omega))|refine xsc ?_|(refine zAb (id:=10) plUFB1 (by kernel_rfl) (by kernel_rfl) ?_)|refine zAj ?_ ?_|refine zAi rfl rfl rfl rfl rfl ?_ ?_|refine zAf ?_ ?_|exact Rech.nil|fail)
   all_goals (refine is_ex ?_;exact zBq (by first|exact Or.inl rfl|exact Or.inr rfl) rfl (Rvs.agg (T:=94) rfl inferInstance inferInstance xS xC (Rvs.tmp rfl (Rvs.tmp rfl Rvs.nil))) () (by rfl) (xN))
 have q1:decide (((m.toNat:Nat):Int)=1)=false:=decide_eq_false (by
  intro h
  exact h1 (UInt8.toNat_inj.1 (by show m.toNat=1;omega)))
 by_cases h2:m=2
 ·subst h2
  have q2:decide ((((2:UInt8).toNat:Nat):Int)=2)=true:=rfl
  have ct:=ktextp_ct (W:=W) l (by omega)
  rw [hS,firstP_two,← hS]
  have v2:(0:Int)≤1∧(1:Int)≤((s.length:Nat):Int):=by omega
  have hdr:s.drop (1:Int).toNat=l:=hdrop 0
  cases hp:(textP l).map fun x=>(kT x.1,x.2) with
  |none=>
   rw [hp] at ct
   have ct:Ct Tryz.prog W 192 [strV l] [] (fun _:Unit=>.tuple #[kqV kp0,strV [],.bool false]) (fun _=>[]):=ct
   show Ct Tryz.prog W 140 [strV s] [] (fun _:Unit=>.tuple #[kqV kp0,strV [],.bool false]) (fun _=>[])
   refine Ct.enter Tryz.func140 rfl Tryz.ntmps140 (by simp) (fun R=>?_)
   repeat' (first|(refine zAd ?_;refine zAc xE ct xP rfl (fun _=>?_))|(refine zAy ?_;refine zAa (zAp rfl rfl (by omega) h0) ?_)|(refine zCf ?_;refine zAa (Ev_sliceFrom_p rfl rfl v2 hdr) ?_)|(refine zAv ?_;first|refine zAa (zAh rfl rfl q1) ?_|refine zAa (zAh rfl rfl q2) ?_)|refine xst ?_|(refine xsa ?_;intro _)|(refine xsb ?_ ?_ <;>intro _<;>try (exfalso;omega))|refine xsc ?_|(refine zAb (id:=10) plUFB1 (by kernel_rfl) (by kernel_rfl) ?_)|refine zAj ?_ ?_|refine zAi rfl rfl rfl rfl rfl ?_ ?_|refine zAf ?_ ?_|exact Rech.nil|fail)
   all_goals (refine is_ex ?_;exact zBq (by first|exact Or.inl rfl|exact Or.inr rfl) rfl (Rvs.agg (T:=94) rfl inferInstance inferInstance xS xC (Rvs.tmp rfl (Rvs.tmp rfl Rvs.nil))) () (by rfl) (xN))
  |some x=>
   rw [hp] at ct
   have ct:Ct Tryz.prog W 192 [strV l] [] (fun _:Unit=>.tuple #[kqV x.1,strV x.2,.bool true]) (fun _=>[]):=ct
   show Ct Tryz.prog W 140 [strV s] [] (fun _:Unit=>.tuple #[kqV x.1,strV x.2,.bool true]) (fun _=>[])
   refine Ct.enter Tryz.func140 rfl Tryz.ntmps140 (by simp) (fun R=>?_)
   repeat' (first|(refine zAd ?_;refine zAc xE ct xP rfl (fun _=>?_))|(refine zAy ?_;refine zAa (zAp rfl rfl (by omega) h0) ?_)|(refine zCf ?_;refine zAa (Ev_sliceFrom_p rfl rfl v2 hdr) ?_)|(refine zAv ?_;first|refine zAa (zAh rfl rfl q1) ?_|refine zAa (zAh rfl rfl q2) ?_)|refine xst ?_|(refine xsa ?_;intro _)|(refine xsb ?_ ?_ <;>intro _<;>try (exfalso;omega))|refine xsc ?_|(refine zAb (id:=10) plUFB1 (by kernel_rfl) (by kernel_rfl) ?_)|refine zAj ?_ ?_|refine zAi rfl rfl rfl rfl rfl ?_ ?_|refine zAf ?_ ?_|exact Rech.nil|fail)
   all_goals (refine is_ex ?_;exact zBq (by first|exact Or.inl rfl|exact Or.inr rfl) rfl (Rvs.agg (T:=94) rfl inferInstance inferInstance xS xC (Rvs.tmp rfl (Rvs.tmp rfl Rvs.nil))) () (by rfl) (xN))
 have q2:decide (((m.toNat:Nat):Int)=2)=false:=decide_eq_false (by
  intro h
  exact h2 (UInt8.toNat_inj.1 (by show m.toNat=2;omega)))
 rw [hS,firstP_else h1 h2,← hS]
 show Ct Tryz.prog W 140 [strV s] [] (fun _:Unit=>.tuple #[kqV kp0,strV [],.bool false]) (fun _=>[])
 refine Ct.enter Tryz.func140 rfl Tryz.ntmps140 (by simp) (fun R=>?_)
 repeat' (first|(refine zAy ?_;refine zAa (zAp rfl rfl (by omega) h0) ?_)|(refine zBb ?_;refine zAa (zBc xV xW) ?_)|(refine zAv ?_;first|refine zAa (zAh rfl rfl q1) ?_|refine zAa (zAh rfl rfl q2) ?_)|refine xst ?_|(refine xsa ?_;intro _)|(refine xsb ?_ ?_ <;>intro _<;>try (exfalso;omega))|refine xsc ?_|(refine zAb (id:=10) plUFB1 (by kernel_rfl) (by kernel_rfl) ?_)|refine zAj ?_ ?_|refine zAi rfl rfl rfl rfl rfl ?_ ?_|refine zAf ?_ ?_|exact Rech.nil|fail)
 all_goals (refine is_ex ?_;exact zBq (by first|exact Or.inl rfl|exact Or.inr rfl) rfl (Rvs.agg (T:=94) rfl inferInstance inferInstance xS xC (Rvs.tmp rfl (Rvs.tmp rfl Rvs.nil))) () (by rfl) (xN))
end
end Go.Proofs.YtnbgcimalpdfoaaGreatDoor
namespace Go.Proofs.YtnbgcimalpdfoaaGreatDoor
open Go Go.RowKit
section
variable {W:World} {F:Nat→Addr}
def splV (F:Nat→Addr) (o:Option (List KPt)) (x:Option Addr × Nat):Value:=match o with
 |none=>.tuple #[.slice none 0 0,errV F 7]
 |some L=>.tuple #[.slice x.1 L.length x.2,.nilIface]
theorem ksplit_ct (s:List UInt8) (hs:s.length≤4000000000000) (e7:W.cell? ⟨3,0,none⟩=some (errV F 7)):Ct Tryz.prog W 93 [strV s] [] (fun x:Option Addr × Nat=>splV F (zCd s) x) (fun x=>[lsP kqC 94 3 (.slice x.1 ((zCd s).getD []).length x.2) ((zCd s).getD [])]):=by
 obtain ⟨o,ho⟩:∃ o,o=zCd s:=⟨_,rfl⟩
 rw [← ho]
 refine Ct.enter Tryz.func93 rfl Tryz.ntmps93 (by simp) (fun R=>?_)
 repeat' (first|refine xst ?_|(refine xsa ?_;intro _)|(refine xsb ?_ ?_ <;>intro _<;>try (exfalso;omega))|refine xsc ?_|(refine zAb (id:=5) plUFB2 (by kernel_rfl) (by kernel_rfl) ?_)|refine zAj ?_ ?_|refine zAi rfl rfl rfl rfl rfl ?_ ?_|refine zAf ?_ ?_|exact Rech.nil|fail)
 refine KJ.nilrow 94 3 ?_
 refine zBm (fun x:{x:List UInt8 × List KPt × Option Addr × Nat//x.1.length+x.2.1.length≤s.length∧o=(zCd x.1).map (x.2.1 ++ ·)}=>[(0,strV x.1.1),(4,.slice x.1.2.2.1 x.1.2.1.length x.1.2.2.2)])
  (fun x=>[lsP kqC 94 3 (.slice x.1.2.2.1 x.1.2.1.length x.1.2.2.2) x.1.2.1]++R) (fun x=>x.1.1.length) ⟨(s,[],none,0),Nat.le_refl _,by rw [ho];cases zCd s <;> rfl⟩ xB (xN) (fun ⟨(k,M,oa,oc),hk,hp⟩=>?_)
 dsimp only at hk hp ⊢
 by_cases hk0:k=[]
 ·subst hk0
  have qn:([]:List UInt8)=[]:=rfl
  rw [splitP_nil] at hp
  have hp:o=some M:=by rw [hp];simp
  subst hp
  repeat' (first|(refine zAx ?_;refine zAa (Ev_neqS_f rfl rfl qn) ?_)|refine xst ?_|(refine xsa ?_;intro _)|(refine xsb ?_ ?_ <;>intro _<;>try (exfalso;omega))|refine xsc ?_|(refine zAb (id:=5) plUFB2 (by kernel_rfl) (by kernel_rfl) ?_)|refine zAj ?_ ?_|refine zAi rfl rfl rfl rfl rfl ?_ ?_|refine zAf ?_ ?_|exact Rech.nil|fail)
  all_goals (exact xdn (oa,oc))
 obtain ⟨b,l,hbl⟩:∃ b l,k=b::l:=by
  cases k with
  |nil=>exact absurd rfl hk0
  |cons b l=>exact ⟨b,l,rfl⟩
 have hkl:k.length=l.length+1:=by rw [hbl];rfl
 have cf:=kfirst_ct (W:=W) b l (by omega)
 rw [← hbl] at cf
 cases hf:firstP k with
 |none=>
  rw [hf] at cf
  have cf:Ct Tryz.prog W 140 [strV k] [] (fun _:Unit=>.tuple #[kqV kp0,strV [],.bool false]) (fun _=>[]):=cf
  rw [splitP_none hk0 hf] at hp
  have hp:o=none:=by rw [hp];rfl
  subst hp
  refine KJ.nilrow 94 3 ?_
  repeat' (first|(refine zAd ?_;refine zAc xE cf xP rfl (fun _=>?_))|(refine zAn ?_;refine zAa (zAr rfl e7) ?_)|(refine zAx ?_;refine zAa (Ev_neqS_t rfl rfl hk0) ?_)|refine xst ?_|(refine xsa ?_;intro _)|(refine xsb ?_ ?_ <;>intro _<;>try (exfalso;omega))|refine xsc ?_|(refine zAb (id:=5) plUFB2 (by kernel_rfl) (by kernel_rfl) ?_)|refine zAj ?_ ?_|refine zAi rfl rfl rfl rfl rfl ?_ ?_|refine zAf ?_ ?_|exact Rech.nil|fail)
  all_goals (exact xdn (none,0))
 |some x=>
  rw [hf] at cf
  have cf:Ct Tryz.prog W 140 [strV k] [] (fun _:Unit=>.tuple #[kqV x.1,strV x.2,.bool true]) (fun _=>[]):=cf
  have hsh:=firstP_short (p:=x.1) (t:=x.2) hf
  rw [splitP_some (p:=x.1) (t:=x.2) hf,Option.map_map] at hp
  have hp':o=(zCd x.2).map ((M++[x.1]) ++ ·):=by
   rw [hp]
   congr 1
   funext y
   show M++(x.1::y)=_
   simp
  have hlen:x.2.length+(M++[x.1]).length≤s.length:=by rw [List.length_append];simp only [List.length_cons,List.length_nil];omega
  have m1:(M.length+1)*32≤140737488355328:=by omega
  have m2:M.length+1≤9223372036854775807:=by omega
  obtain ⟨p,t⟩:=x
  dsimp only at cf hsh hp' hlen
  clear hf hp
  repeat' (first|(refine zAd ?_;refine zAc xE cf xP rfl (fun _=>?_))|(refine zBp ?_;refine zBx (l:=M) (a:=p) kq_ok rfl rfl rfl xS xS m1 m2 rfl (fun g' c'=>?_))|(refine zBa ?_;refine zBh rfl xF (by rfl) (by omega) rfl (fun gb=>?_);show KJ W _ _ _ (zAk gb (kqC p) 94::_))|(refine zAx ?_;refine zAa (Ev_neqS_t rfl rfl hk0) ?_)|refine xst ?_|(refine xsa ?_;intro _)|(refine xsb ?_ ?_ <;>intro _<;>try (exfalso;omega))|refine xsc ?_|(refine zAb (id:=5) plUFB2 (by kernel_rfl) (by kernel_rfl) ?_)|refine zAj ?_ ?_|refine zAi rfl rfl rfl rfl rfl ?_ ?_|refine zAf ?_ ?_|exact Rech.nil|fail)
  all_goals refine zAu ⟨(t,M++[p],some ⟨g',0,none⟩,c'),hlen,hp'⟩ hsh xB (xN)
end
end Go.Proofs.YtnbgcimalpdfoaaGreatDoor
