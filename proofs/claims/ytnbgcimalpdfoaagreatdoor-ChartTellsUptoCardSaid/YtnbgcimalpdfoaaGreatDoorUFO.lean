/-
  KsR1, KsR2, KsR3.
-/
import Derived.Test.YtnbgcimalpdfoaaGreatDoorUFB
import Derived.Test.YtnbgcimalpdfoaaGreatDoorUFI
import Derived.Test.YtnbgcimalpdfoaaGreatDoorUBM
set_option maxHeartbeats 64000000
namespace Go.Proofs.YtnbgcimalpdfoaaGreatDoor
open Go Go.RowKit
abbrev plUFO0:Pl:=(.op 0 (.op 1 (.op 2 (.op 3 (.op 4 (.op 5 (.op 6 (.op 7 (.op 8 (.op 9 (.op 10 (.op 11 (.op 12 (.op 13 (.op 14 (.op 15 (.op 16 (.op 17 (.op 18 .nil)))))))))))))))))))
def beB:Nat→Nat→List UInt8
 |0,_=>[]
 |n+1,v=>beB n (v / 256)++[UInt8.ofNat (v % 256)]
theorem beB_len:∀ (n v:Nat),(beB n v).length=n
 |0,_=>rfl
 |n+1,v=>by show (beB n (v / 256)++_).length=_;rw [List.length_append,beB_len n];rfl
theorem beB_val:∀ (n:Nat) (l:List UInt8),l.length=n→beB n (valE l)=l
 |0,l,h=>(List.length_eq_zero_iff.1 h).symm
 |n+1,l,h=>by
  obtain ⟨m,b,rfl⟩:∃ m b,l=m++[b]:=by
   rcases List.eq_nil_or_concat l with e|⟨m,b,e⟩
   ·rw [e] at h;cases h
   ·exact ⟨m,b,by simpa using e⟩
  have hm:m.length=n:=by rw [List.length_append] at h;simpa using h
  have hb:=UInt8.toNat_lt b
  have e1:(valE m*256+b.toNat) / 256=valE m:=by omega
  have e2:(valE m*256+b.toNat) % 256=b.toNat:=by omega
  rw [valE_snoc]
  show beB n ((valE m*256+b.toNat) / 256)++[UInt8.ofNat ((valE m*256+b.toNat) % 256)]=_
  rw [e1,e2,beB_val n m hm,UInt8.ofNat_toNat]
theorem num_back {v:Nat} (h:v<18446744073709551616):uT (iT (uT ((v:Int)-9223372036854775808))+9223372036854775808)=v:=by
 unfold iT uT
 split <;> omega
def keyN (x:Int):List UInt8:=1::beB 8 (uT (x+9223372036854775808))
theorem keyN_num {l:List UInt8} (h:l.length=8):keyN (numK l)=1::l:=by
 have hv:=valE_lt 8 l h
 have hv:valE l<18446744073709551616:=hv
 unfold keyN numK
 rw [num_back hv,beB_val 8 l h]
theorem pow_shift {u j:Nat} (hj:j<8):u / 2 ^ (56-8*j) / 256=u / 2 ^ (64-8*j):=by
 rw [Nat.div_div_eq_div_mul,show (256:Nat)=2 ^ 8 from rfl,← Nat.pow_add,show 56-8*j+8=64-8*j by omega]
section
variable {W:World}
instance fn_dnumber2:FnIs Tryz.prog 94:=⟨by kernel_rfl⟩
set_option maxRecDepth 100000 in
theorem dnum2_ct (s:List UInt8) (a:Nat) (ha:a+8≤s.length) (hs:s.length≤9223372036854775000) :
 Ct Tryz.prog W 94 [strV s,.int .i64 (a:Nat)] [] (fun _:Unit=>.int .i64 (numK ((s.drop a).take 8))) (fun _=>[]):=by
 have hdl:(s.drop a).length=s.length-a:=List.length_drop
 refine Ct.enter Tryz.func94 rfl Tryz.ntmps94 (by simp) (fun R=>?_)
 repeat' (first|refine xst ?_|(refine xsa ?_;intro _)|(refine xsb ?_ ?_ <;>intro _<;>try (exfalso;omega))|refine xsc ?_|fail)
 refine zBm (fun x:{x:Nat × Nat//x.1≤8∧x.2=valE ((s.drop a).take x.1)}=>[(0,strV s),(1,.int .i64 (a:Nat)),(5,.int .u64 (x.1.2:Nat)),(6,.int .i64 (a+x.1.1:Nat))])
  (fun _=>[]++R) (fun x=>8-x.1.1) ⟨(0,0),by omega,rfl⟩ xB (xN) (fun ⟨(i,x),hi,hx⟩=>?_)
 dsimp only at hi hx ⊢
 by_cases hlt:i<8
 ·have q3:decide (((a+i:Nat):Int)<((a+8:Nat):Int))=true:=decide_eq_true (by omega)
  obtain ⟨b,hb⟩:∃ b,(s.drop a)[i]? = some b:=⟨_,List.getElem?_eq_getElem (by omega)⟩
  have hbs:s[((a+i:Nat):Int).toNat]? = some b:=by rw [Int.toNat_natCast,← List.getElem?_drop];exact hb
  have hbt:=UInt8.toNat_lt b
  have hnx:=valE_next hb
  rw [← hx] at hnx
  have hvl:=valE_lt (i+1) ((s.drop a).take (i+1)) (by rw [List.length_take];omega)
  rw [hnx] at hvl
  have hp:(256:Nat) ^ (i+1)≤256 ^ 8:=Nat.pow_le_pow_right (by omega) (by omega)
  have hp2:(256:Nat) ^ 8=18446744073709551616:=by decide
  have hxx:x*256+b.toNat<18446744073709551616:=by omega
  have sh:=shlx8 (x:=x) (by omega)
  have orr:=orx8 (x:=x) (b:=b.toNat) hbt hxx
  have c1:IntKind.u64.wrap ((b.toNat:Nat):Int)=((b.toNat:Nat):Int):=zCc _ (by omega)
  clear hp hp2 hvl
  repeat' (first|(refine zBe ?_;refine zAa (zAs rfl c1) ?_)|(refine zAy ?_;refine zAa (zAp rfl rfl (by omega) hbs) ?_)|(refine zAw ?_;first|refine zAa (zAg (r:=((a+8:Nat):Int)) rfl rfl (by omega) (by omega)) ?_|refine zAa (zAg (r:=((a+(i+1):Nat):Int)) rfl rfl (by omega) (by omega)) ?_)|(refine ek_or ?_;refine zAa (Ev_or_s rfl rfl orr) ?_)|(refine ek_shl ?_;refine zAa (Ev_shl_t rfl rfl sh) ?_)|(refine zAm ?_;refine zAa (zAe rfl rfl q3) ?_)|refine xst ?_|(refine xsa ?_;intro _)|(refine xsb ?_ ?_ <;>intro _<;>try (exfalso;omega))|refine xsc ?_|fail)
  all_goals refine zAu ⟨(i+1,x*256+b.toNat),hlt,hnx.symm⟩ (by show 8-(i+1)<8-i;omega) xB (xN)
 ·have q3:decide (((a+i:Nat):Int)<((a+8:Nat):Int))=false:=decide_eq_false (by omega)
  obtain rfl:i=8:=by omega
  have w1:IntKind.u64.wrap ((x:Int)-9223372036854775808)=((uT ((x:Int)-9223372036854775808):Nat):Int):=u64_uT _
  have w2:=i64_iT (uT_lt ((x:Int)-9223372036854775808))
  have hnum:numK ((s.drop a).take 8)=iT (uT ((x:Int)-9223372036854775808)):=by unfold numK;rw [← hx]
  rw [hnum]
  obtain ⟨y,hy⟩:∃ y,y=iT (uT ((x:Int)-9223372036854775808)):=⟨_,rfl⟩
  rw [← hy] at w2 ⊢
  obtain ⟨z,hz⟩:∃ z,z=uT ((x:Int)-9223372036854775808):=⟨_,rfl⟩
  rw [← hz] at w1 w2
  clear hy hnum hz
  repeat' (first|(refine zBe ?_;refine zAa (zAs rfl w2) ?_)|(refine zAw ?_;refine zAa (zAg (r:=((a+8:Nat):Int)) rfl rfl (by omega) (by omega)) ?_)|(refine ek_sub ?_;refine zAa (Ev_sub_w rfl rfl w1) ?_)|(refine zAm ?_;refine zAa (zAe rfl rfl q3) ?_)|refine xst ?_|(refine xsa ?_;intro _)|(refine xsb ?_ ?_ <;>intro _<;>try (exfalso;omega))|refine xsc ?_|fail)
  all_goals (exact xdn ())
set_option maxRecDepth 100000 in
theorem dformN_ct (n:Int):Ct Tryz.prog W 95 [.agg (kqC (kN n)).toArray] [] (fun x:Nat × Nat=>.slice (some ⟨x.1,0,none⟩) (keyN n).length x.2) (fun x=>[byP (.slice (some ⟨x.1,0,none⟩) (keyN n).length x.2) (keyN n)]):=by
 have w0:=u64_uT n
 have w1:IntKind.u64.wrap (((uT n:Nat):Int)+9223372036854775808)=((uT (n+9223372036854775808):Nat):Int):=by
  rw [u64_uT]
  unfold uT
  omega
 have hu:=uT_lt (n+9223372036854775808)
 have hK:keyN n=1::beB 8 (uT (n+9223372036854775808)):=rfl
 obtain ⟨K,hK'⟩:∃ K,K=keyN n:=⟨_,rfl⟩
 rw [← hK'] at hK ⊢
 obtain ⟨u,huu⟩:∃ u,u=uT (n+9223372036854775808):=⟨_,rfl⟩
 rw [← huu] at w1 hu hK
 clear huu hK'
 refine Ct.enter Tryz.func95 rfl Tryz.ntmps95 (by simp) (fun R=>?_)
 repeat' (first|(refine zBu ?_;refine zBr rfl xF rfl (fun g1=>?_))|(refine zBa ?_;refine zBh rfl xF (by rfl) (by omega) rfl (fun gb=>?_);refine KJ.cellsRow (g:=gb) (m:=1) (l:=[(1:UInt8)]) byC_ok xS (by rfl) rfl (by decide) ?_)|(refine zBe ?_;refine zAa (zAs rfl w0) ?_)|(refine zAw ?_;refine zAa (Ev_add_w rfl rfl w1) ?_)|refine xst ?_|(refine xsa ?_;intro _)|(refine xsb ?_ ?_ <;>intro _<;>try (exfalso;omega))|refine xsc ?_|fail)
 refine zBm (fun x:{x:Nat × List UInt8 × Option Addr × Nat//x.1≤8∧x.2.1=1::beB x.1 (u / 2 ^ (64-8*x.1))}=>[(1,.pointer (some ⟨g1,0,none⟩)),(3,.slice x.1.2.2.1 x.1.2.1.length x.1.2.2.2),(4,.int .u64 (u:Nat)),(5,.int .i64 (56-8*(x.1.1:Int)))])
  (fun x=>[zAk g1 (kqC (kN n)) 94,byP (.slice x.1.2.2.1 x.1.2.1.length x.1.2.2.2) x.1.2.1]++R) (fun x=>8-x.1.1) ⟨(0,[1],some ⟨gb,0,none⟩,1),Nat.zero_le _,rfl⟩ xB (xN) (fun ⟨(j,M,ma,mc),hj,hM⟩=>?_)
 dsimp only at hj hM ⊢
 have hMl:=congrArg List.length hM
 rw [List.length_cons,beB_len] at hMl
 by_cases hlt:j<8
 ·have q1:decide ((0:Int)≤56-8*(j:Int))=true:=decide_eq_true (by omega)
  obtain ⟨sft,hs⟩:∃ sft:Nat,sft=56-8*j:=⟨_,rfl⟩
  have hsi:56-8*(j:Int)=((sft:Nat):Int):=by omega
  have c0:IntKind.u64.wrap (56-8*(j:Int))=((sft:Nat):Int):=by rw [hsi];exact zCc _ (by omega)
  have sh:ShrF .u64 ((u:Nat):Int) ((sft:Nat):Int) ((u / 2 ^ sft:Nat):Int):=by
   refine ⟨by omega,?_⟩
   have hm:min ((sft:Nat):Int).toNat IntKind.u64.bits=sft:=by show min ((sft:Nat):Int).toNat 64=sft;omega
   rw [hm,Int.fdiv_eq_ediv_of_nonneg _ (by exact_mod_cast Nat.zero_le _)]
   norm_cast
  have e1:IntKind.u8.wrap ((u / 2 ^ sft:Nat):Int)=((UInt8.ofNat (u / 2 ^ sft % 256)).toNat:Int):=by rw [u8_wrap,UInt8.toNat_ofNat'];omega
  have hnx:M++[UInt8.ofNat (u / 2 ^ sft % 256)]=1::beB (j+1) (u / 2 ^ (64-8*(j+1))):=by
   rw [hM,show 64-8*(j+1)=56-8*j by omega]
   show _=1::(beB j (u / 2 ^ (56-8*j) / 256)++[UInt8.ofNat (u / 2 ^ (56-8*j) % 256)])
   rw [pow_shift hlt,hs]
   rfl
  have m1:(M.length+1)*1≤140737488355328:=by omega
  have m2:M.length+1≤9223372036854775807:=by omega
  obtain ⟨v,hv⟩:∃ v,v=u / 2 ^ sft:=⟨_,rfl⟩
  rw [← hv] at sh e1 hnx
  clear hv
  repeat' (first|(refine zBp ?_;refine zBx (l:=M) (a:=UInt8.ofNat (v % 256)) byC_ok rfl rfl rfl xS xS m1 m2 rfl (fun g2 c2=>?_))|(refine zBa ?_;refine zBh rfl xF (by rfl) (by omega) rfl (fun gb=>?_))|(refine zBe ?_;first|refine zAa (zAs rfl c0) ?_|refine zAa (zAs rfl e1) ?_)|(refine ek_sub ?_;refine zAa (Ev_subI_v (r:=56-8*((j+1:Nat):Int)) rfl rfl (by omega) (by omega)) ?_)|(refine ek_shr ?_;refine zAa (Ev_shr_s rfl rfl sh) ?_)|(refine zCh ?_;refine zAa (zBf rfl rfl q1) ?_)|refine xst ?_|(refine xsa ?_;intro _)|(refine xsb ?_ ?_ <;>intro _<;>try (exfalso;omega))|refine xsc ?_|fail)
  all_goals refine zAu ⟨(j+1,M++[UInt8.ofNat (v % 256)],some ⟨g2,0,none⟩,c2),hlt,hnx⟩ (by show 8-(j+1)<8-j;omega) xB (xN)
 ·have q1:decide ((0:Int)≤56-8*(j:Int))=false:=decide_eq_false (by omega)
  obtain rfl:j=8:=by omega
  have hKM:K=M:=by rw [hK,hM];simp
  subst hKM
  refine KJ.lsSome xS (by omega) (fun g9 hg9=>?_)
  subst hg9
  repeat' (first|(refine zCh ?_;refine zAa (zBf rfl rfl q1) ?_)|refine xst ?_|(refine xsa ?_;intro _)|(refine xsb ?_ ?_ <;>intro _<;>try (exfalso;omega))|refine xsc ?_|fail)
  all_goals (exact xdn (g9,mc))
end
end Go.Proofs.YtnbgcimalpdfoaaGreatDoor
namespace Go.Proofs.YtnbgcimalpdfoaaGreatDoor
open Go Go.RowKit
def scanT:List UInt8→List UInt8
 |[]=>[]
 |b::l=>if b≠0 then b::scanT l else match l with
  |[]=>[]
  |c::l'=>if c=255 then 0::scanT l' else []
theorem scanT_nil:scanT []=[]:=by rw [scanT.eq_def]
theorem scanT_nz {b:UInt8} {l:List UInt8} (hb:b≠0):scanT (b::l)=b::scanT l:=by rw [scanT.eq_def];simp [hb]
theorem scanT_zz (l:List UInt8):scanT (0::255::l)=0::scanT l:=by rw [scanT.eq_def];simp
theorem scanT_end {c:UInt8} {l:List UInt8} (h:c≠255):scanT (0::c::l)=[]:=by rw [scanT.eq_def];simp [h]
theorem scanT_zero:scanT [0]=[]:=by rw [scanT.eq_def];simp
theorem scanT_esc:∀ (s t:List UInt8),scanT (esc s++0::1::t)=s
 |[],t=>scanT_end (by decide)
 |b::s,t=>by
  rw [esc_cons,List.append_assoc]
  by_cases hb:b=0
  ·have e:escB b=[0,255]:=if_pos hb
   rw [e]
   show scanT (0::255::(esc s++0::1::t))=_
   rw [scanT_zz,scanT_esc s t,hb]
  ·have e:escB b=[b]:=if_neg hb
   rw [e]
   show scanT (b::(esc s++0::1::t))=_
   rw [scanT_nz hb,scanT_esc s t]
theorem scanT_len:∀ (n:Nat) (l:List UInt8),l.length≤n→(scanT l).length≤l.length
 |_,[],_=>by rw [scanT_nil];exact Nat.le_refl _
 |0,b::l,h=>by simp at h
 |n+1,b::l,h=>by
  rw [List.length_cons] at h
  by_cases hb:b=0
  ·subst hb
   match l,h with
   |[],_=>rw [scanT_zero];exact Nat.zero_le _
   |c::l',h=>
    rw [List.length_cons] at h
    by_cases hc:c=255
    ·subst hc
     have:=scanT_len n l' (by omega)
     rw [scanT_zz,List.length_cons,List.length_cons,List.length_cons];omega
    ·rw [scanT_end hc];exact Nat.zero_le _
  ·have:=scanT_len n l (by omega)
   rw [scanT_nz hb,List.length_cons,List.length_cons];omega
def docP (b:UInt8) (l:List UInt8):Option KPt:=if b=1 then (if l.length<8 then none else some (kN (numK (l.take 8)))) else if b=2 then some (kT (scanT l)) else none
theorem docP_one (l:List UInt8):docP 1 l=if l.length<8 then none else some (kN (numK (l.take 8))):=rfl
theorem docP_two (l:List UInt8):docP 2 l=some (kT (scanT l)):=rfl
theorem docP_else {b:UInt8} {l:List UInt8} (h1:b≠1) (h2:b≠2):docP b l=none:=by unfold docP;rw [if_neg h1,if_neg h2]
theorem docP_none {b:UInt8} {l:List UInt8} (h:docP b l=none):firstP (b::l)=none:=by
 by_cases h1:b=1
 ·subst h1
  rw [docP_one] at h
  rw [firstP_one]
  split at h
  ·rename_i hl;rw [if_pos hl]
  ·cases h
 ·by_cases h2:b=2
  ·subst h2;rw [docP_two] at h;cases h
  ·exact firstP_else h1 h2
section
variable {W:World}
theorem docP_form {b:UInt8} {l:List UInt8} {p:KPt} (h:docP b l=some p) (hl:l.length≤4000000000000):∃ f:List UInt8,f.length≤2*l.length+9∧(∀ t,b::l=f++t→firstP (b::l)=some (p,t))∧((∀ t,b::l≠f++t)→firstP (b::l)=none)∧
 Ct Tryz.prog W 95 [.agg (kqC p).toArray] [] (fun x:Nat × Nat=>.slice (some ⟨x.1,0,none⟩) f.length x.2) (fun x=>[byP (.slice (some ⟨x.1,0,none⟩) f.length x.2) f]):=by
 by_cases h1:b=1
 ·subst h1
  rw [docP_one] at h
  split at h
  ·cases h
  ·rename_i h8
   cases h
   have hk:keyN (numK (l.take 8))=1::l.take 8:=keyN_num (by rw [List.length_take];omega)
   have hf:firstP (1::l)=some (kN (numK (l.take 8)),l.drop 8):=by rw [firstP_one,if_neg h8]
   have e:(1:UInt8)::l=(1::l.take 8)++l.drop 8:=by rw [List.cons_append,List.take_append_drop]
   refine ⟨keyN (numK (l.take 8)),by rw [hk,List.length_cons,List.length_take];omega,fun t ht=>?_,fun hn=>?_,dformN_ct (W:=W) _⟩
   ·rw [hk,e] at ht
    have:=List.append_cancel_left ht
    rw [hf,this]
   ·rw [hk] at hn
    exact absurd e (hn _)
 ·by_cases h2:b=2
  ·subst h2
   rw [docP_two] at h
   cases h
   have hsl:=scanT_len _ l (Nat.le_refl _)
   have he:=esc_len (scanT l)
   have hkl:=keyT_length (scanT l)
   refine ⟨keyT (scanT l),by omega,fun t ht=>?_,fun hn=>?_,dform_ct (W:=W) (scanT l) (by omega)⟩
   ·rw [ht];exact firstP_text _ _
   ·rw [firstP_two]
    cases hp:textP l with
    |none=>rfl
    |some x=>
     have hx:=textP_some _ (l:=l) (s:=x.1) (t:=x.2) (Nat.le_refl _) hp
     have hs:scanT l=x.1:=by rw [hx];exact scanT_esc _ _
     refine absurd ?_ (hn x.2)
     rw [hs]
     conv=>lhs;rw [hx]
     unfold keyT;simp
  ·rw [docP_else h1 h2] at h;cases h
end
end Go.Proofs.YtnbgcimalpdfoaaGreatDoor
namespace Go.Proofs.YtnbgcimalpdfoaaGreatDoor
open Go Go.RowKit
section
variable {W:World} {F:Nat→Addr}
instance fn_dsplit:FnIs Tryz.prog 49:=⟨by kernel_rfl⟩
def splD (o:Option (List KPt)) (x:Option Addr × Nat):Value:=match o with
 |none=>.tuple #[.slice x.1 0 x.2,.int .i64 7]
 |some L=>.tuple #[.slice x.1 L.length x.2,.int .i64 0]
set_option maxRecDepth 100000 in
theorem dsplit_ct (s:List UInt8) (hs:s.length≤1000000000000):Ct Tryz.prog W 49 [strV s] [] (fun x:Option Addr × Nat=>splD (zCd s) x) (fun x=>[lsP kqC 94 3 (.slice x.1 ((zCd s).getD []).length x.2) ((zCd s).getD [])]):=by
 obtain ⟨o,ho⟩:∃ o,o=zCd s:=⟨_,rfl⟩
 rw [← ho]
 refine Ct.enter Tryz.func49 rfl Tryz.ntmps49 (by simp) (fun R=>?_)
 repeat' (first|(refine zBa ?_;refine KJ_bslice0 rfl (fun g0=>?_))|refine xst ?_|(refine xsa ?_;intro _)|(refine xsb ?_ ?_ <;>intro _<;>try (exfalso;omega))|refine xsc ?_|(refine zAb (id:=23) plUFO0 (by kernel_rfl) (by kernel_rfl) ?_)|refine zAj ?_ ?_|refine zAi rfl rfl rfl rfl rfl ?_ ?_|refine zAf ?_ ?_|exact Rech.nil|fail)
 refine zBm (fun x:{x:Nat × List KPt × Nat × Nat//x.1≤s.length∧x.2.1.length≤x.1∧o=(zCd (s.drop x.1)).map (x.2.1 ++ ·)}=>[(0,strV s),(4,.slice (some ⟨x.1.2.2.1,0,none⟩) x.1.2.1.length x.1.2.2.2),(5,.int .i64 (x.1.1:Nat))])
  (fun x=>[lsP kqC 94 3 (.slice (some ⟨x.1.2.2.1,0,none⟩) x.1.2.1.length x.1.2.2.2) x.1.2.1]++R) (fun x=>s.length-x.1.1) ⟨(0,[],g0,0),Nat.zero_le _,Nat.zero_le _,by rw [List.drop_zero,ho];cases zCd s <;> rfl⟩ xB (xN) (fun ⟨(i,M,oa,oc),hi,hMi,hp⟩=>?_)
 dsimp only at hi hMi hp ⊢
 by_cases hlt:i<s.length
 rotate_left
 ·have ql:decide ((i:Int)<(s.length:Nat))=false:=decide_eq_false (by omega)
  rw [List.drop_of_length_le (by omega),splitP_nil] at hp
  have hp:o=some M:=by rw [hp];simp
  subst hp
  repeat' (first|(refine zAm ?_;refine zAa (zAe rfl rfl ql) ?_)|refine xst ?_|(refine xsa ?_;intro _)|(refine xsb ?_ ?_ <;>intro _<;>try (exfalso;omega))|refine xsc ?_|(refine zAb (id:=23) plUFO0 (by kernel_rfl) (by kernel_rfl) ?_)|refine zAj ?_ ?_|refine zAi rfl rfl rfl rfl rfl ?_ ?_|refine zAf ?_ ?_|exact Rech.nil|fail)
  all_goals (exact xdn (some ⟨oa,0,none⟩,oc))
 have ql:decide ((i:Int)<(s.length:Nat))=true:=decide_eq_true (by omega)
 obtain ⟨b,hb⟩:∃ b,s[i]? = some b:=⟨_,List.getElem?_eq_getElem hlt⟩
 have hb':s[(i:Int).toNat]? = some b:=by rw [Int.toNat_natCast];exact hb
 obtain ⟨l,hl⟩:∃ l,l=s.drop (i+1):=⟨_,rfl⟩
 have hk:s.drop i=b::l:=by rw [hl];exact drop_b hb
 have hll:l.length=s.length-(i+1):=by rw [hl,List.length_drop]
 rw [hk] at hp
 have hkn:(b::l:List UInt8)≠[]:=by simp
 have hq1:∀ c:Nat,c<256→(decide (((b.toNat:Nat):Int)=(c:Int))=decide (b=UInt8.ofNat c)):=fun c hc=>decide_eq_decide.2 ⟨fun h=>UInt8.toNat_inj.1 (by rw [UInt8.toNat_ofNat'];omega),fun h=>by rw [h,UInt8.toNat_ofNat'];omega⟩
 have qb1:decide (((b.toNat:Nat):Int)=1)=decide (b=1):=hq1 1 (by omega)
 have qb2:decide (((b.toNat:Nat):Int)=2)=decide (b=2):=hq1 2 (by omega)
 clear hq1
 cases hd:docP b l with
 |none=>
  have hf:=docP_none hd
  rw [splitP_none hkn hf] at hp
  have hp:o=none:=by rw [hp];rfl
  subst hp
  by_cases h1:b=1
  ·have q1:decide (((b.toNat:Nat):Int)=1)=true:=by rw [qb1];exact decide_eq_true h1
   have h8:l.length<8:=by
    rw [h1,docP_one] at hd
    by_cases h:l.length<8
    ·exact h
    ·rw [if_neg h] at hd;cases hd
   have q9:decide (((s.length:Nat):Int)<((i+9:Nat):Int))=true:=decide_eq_true (by omega)
   repeat' (first|(refine zBd ?_;refine zAz rfl (fun g6=>?_))|(refine zBa ?_;refine KJ_bslice0 rfl (fun g9=>?_))|(refine zAy ?_;refine zAa (zAp rfl rfl (by omega) hb') ?_)|(refine zBb ?_;refine zAa (zBc xV xW) ?_)|(refine zAw ?_;refine zAa (zAg (r:=((i+9:Nat):Int)) rfl rfl (by omega) (by omega)) ?_)|(refine zAv ?_;refine zAa (zAh rfl rfl q1) ?_)|(refine zAm ?_;refine zAa (zAe rfl rfl ql) ?_)|(refine zBg ?_;refine zAa (zAq rfl rfl q9) ?_)|refine xst ?_|(refine xsa ?_;intro _)|(refine xsb ?_ ?_ <;>intro _<;>try (exfalso;omega))|refine xsc ?_|(refine zAb (id:=23) plUFO0 (by kernel_rfl) (by kernel_rfl) ?_)|refine zAj ?_ ?_|refine zAi rfl rfl rfl rfl rfl ?_ ?_|refine zAf ?_ ?_|exact Rech.nil|fail)
   all_goals (exact xdn (some ⟨g9,0,none⟩,0))
  ·by_cases h2:b=2
   ·rw [h2,docP_two] at hd;cases hd
   ·have q1:decide (((b.toNat:Nat):Int)=1)=false:=by rw [qb1];exact decide_eq_false h1
    have q2:decide (((b.toNat:Nat):Int)=2)=false:=by rw [qb2];exact decide_eq_false h2
    repeat' (first|(refine zBd ?_;refine zAz rfl (fun g6=>?_))|(refine zBa ?_;refine KJ_bslice0 rfl (fun g9=>?_))|(refine zAy ?_;refine zAa (zAp rfl rfl (by omega) hb') ?_)|(refine zBb ?_;refine zAa (zBc xV xW) ?_)|(refine zAv ?_;first|refine zAa (zAh rfl rfl q1) ?_|refine zAa (zAh rfl rfl q2) ?_)|(refine zAm ?_;refine zAa (zAe rfl rfl ql) ?_)|refine xst ?_|(refine xsa ?_;intro _)|(refine xsb ?_ ?_ <;>intro _<;>try (exfalso;omega))|refine xsc ?_|(refine zAb (id:=23) plUFO0 (by kernel_rfl) (by kernel_rfl) ?_)|refine zAj ?_ ?_|refine zAi rfl rfl rfl rfl rfl ?_ ?_|refine zAf ?_ ?_|exact Rech.nil|fail)
    all_goals (exact xdn (some ⟨g9,0,none⟩,0))
 |some p=>
  obtain ⟨f,hfl,hyes,hno,cf⟩:=docP_form (W:=W) hd (by omega)
  apply KJ_rest (fun Kc=>∀ (g6:Nat),KJ W 105 Kc [(0,strV s),(4,.slice (some ⟨oa,0,none⟩) M.length oc),(5,.int .i64 (i:Nat)),(6,.pointer (some ⟨g6,0,none⟩))]
   ([zAk g6 (kqC p) 94,lsP kqC 94 3 (.slice (some ⟨oa,0,none⟩) M.length oc) M]++R))
  ·intro rest
   by_cases h1:b=1
   ·have q1:decide (((b.toNat:Nat):Int)=1)=true:=by rw [qb1];exact decide_eq_true h1
    have hpk:¬ l.length<8∧p=kN (numK (l.take 8)):=by
     rw [h1,docP_one] at hd
     by_cases h:l.length<8
     ·rw [if_pos h] at hd;cases hd
     ·rw [if_neg h] at hd;exact ⟨h,by simpa using hd.symm⟩
    have q9:decide (((s.length:Nat):Int)<((i+9:Nat):Int))=false:=decide_eq_false (by have:=hpk.1;omega)
    have cn:=dnum2_ct (W:=W) s (i+1) (by have:=hpk.1;omega) (by omega)
    rw [← hl] at cn
    obtain ⟨y,hy⟩:∃ y,y=numK (l.take 8):=⟨_,rfl⟩
    have hpe:kqC p=[.bool true,.int .i64 y,strV []]:=by rw [hpk.2,hy];rfl
    rw [← hy] at cn
    rw [hpe] at rest
    repeat' (first|(refine at_seq_region (id:=22) ?_;exact KJ.weak (rest _) xB (xN))|(refine zBd ?_;refine zAz rfl (fun g6=>?_))|(refine zAd ?_;refine zAc xE cn xP rfl (fun _=>?_))|(refine zAy ?_;refine zAa (zAp rfl rfl (by omega) hb') ?_)|(refine zBb ?_;refine zAa (zBc xV xW) ?_)|(refine zAw ?_;first|refine zAa (zAg (r:=((i+1:Nat):Int)) rfl rfl (by omega) (by omega)) ?_|refine zAa (zAg (r:=((i+9:Nat):Int)) rfl rfl (by omega) (by omega)) ?_)|(refine zAv ?_;refine zAa (zAh rfl rfl q1) ?_)|(refine zAm ?_;refine zAa (zAe rfl rfl ql) ?_)|(refine zBg ?_;refine zAa (zAq rfl rfl q9) ?_)|refine xst ?_|(refine xsa ?_;intro _)|(refine xsb ?_ ?_ <;>intro _<;>try (exfalso;omega))|refine xsc ?_|(refine zAb (id:=23) plUFO0 (by kernel_rfl) (by kernel_rfl) ?_)|refine zAj ?_ ?_|refine zAi rfl rfl rfl rfl rfl ?_ ?_|refine zAf ?_ ?_|exact Rech.nil|fail)
   ·have h2:b=2:=by
     by_cases h2:b=2
     ·exact h2
     ·rw [docP_else h1 h2] at hd;cases hd
    have q1:decide (((b.toNat:Nat):Int)=1)=false:=by rw [qb1];exact decide_eq_false h1
    have q2:decide (((b.toNat:Nat):Int)=2)=true:=by rw [qb2];exact decide_eq_true h2
    have hpk:p=kT (scanT l):=by rw [h2,docP_two] at hd;simpa using hd.symm
    repeat' (first|(refine zBd ?_;refine zAz rfl (fun g6=>?_))|(refine zBa ?_;refine KJ_bslice0 rfl (fun g7=>?_))|(refine zAy ?_;refine zAa (zAp rfl rfl (by omega) hb') ?_)|(refine zBb ?_;refine zAa (zBc xV xW) ?_)|(refine zAw ?_;refine zAa (zAg (r:=((i+1:Nat):Int)) rfl rfl (by omega) (by omega)) ?_)|(refine zAv ?_;first|refine zAa (zAh rfl rfl q1) ?_|refine zAa (zAh rfl rfl q2) ?_)|(refine zAm ?_;refine zAa (zAe rfl rfl ql) ?_)|refine xst ?_|(refine xsa ?_;intro _)|(refine xsb ?_ ?_ <;>intro _<;>try (exfalso;omega))|refine xsc ?_|(refine zAb (id:=23) plUFO0 (by kernel_rfl) (by kernel_rfl) ?_)|refine zAj ?_ ?_|refine zAi rfl rfl rfl rfl rfl ?_ ?_|refine zAf ?_ ?_|exact Rech.nil|fail)
    refine zBm (fun x:{x:Nat × List UInt8 × Nat × Nat//x.1≤s.length∧x.2.1.length+(i+1)≤x.1∧scanT l=x.2.1++scanT (s.drop x.1)}=>[(0,strV s),(4,.slice (some ⟨oa,0,none⟩) M.length oc),(5,.int .i64 (i:Nat)),(6,.pointer (some ⟨g6,0,none⟩)),(7,.slice (some ⟨x.1.2.2.1,0,none⟩) x.1.2.1.length x.1.2.2.2),(8,.int .i64 (x.1.1:Nat))])
     (fun x=>[zAk g6 (kqC kp0) 94,lsP kqC 94 3 (.slice (some ⟨oa,0,none⟩) M.length oc) M,byP (.slice (some ⟨x.1.2.2.1,0,none⟩) x.1.2.1.length x.1.2.2.2) x.1.2.1]++R) (fun x=>s.length-x.1.1) ⟨(i+1,[],g7,0),hlt,by simp,by rw [← hl];rfl⟩ xB (xN) (fun ⟨(k,O,a7,c7),hk7,hO7,hsc⟩=>?_)
    dsimp only at hk7 hO7 hsc ⊢
    by_cases hlk:k<s.length
    rotate_left
    ·have qk:decide ((k:Int)<(s.length:Nat))=false:=decide_eq_false (by omega)
     rw [List.drop_of_length_le (by omega),scanT_nil,List.append_nil] at hsc
     have hpe:kqC p=[.bool false,.int .i64 0,strV O]:=by rw [hpk,hsc];rfl
     rw [hpe] at rest
     repeat' (first|(refine at_seq_region (id:=22) ?_;exact KJ.weak (rest _) xB (xN))|(refine zBe ?_;refine zAa (Ev_bytesB rfl xS rfl) ?_)|(refine zBb ?_;refine zAa (zBc xV xW) ?_)|(refine zAm ?_;refine zAa (zAe rfl rfl qk) ?_)|refine xst ?_|(refine xsa ?_;intro _)|(refine xsb ?_ ?_ <;>intro _<;>try (exfalso;omega))|refine xsc ?_|(refine zAb (id:=23) plUFO0 (by kernel_rfl) (by kernel_rfl) ?_)|refine zAj ?_ ?_|refine zAi rfl rfl rfl rfl rfl ?_ ?_|refine zAf ?_ ?_|exact Rech.nil|fail)
    have qk:decide ((k:Int)<(s.length:Nat))=true:=decide_eq_true (by omega)
    obtain ⟨d,hdk⟩:∃ d,s[k]? = some d:=⟨_,List.getElem?_eq_getElem hlk⟩
    have hdk':s[(k:Int).toNat]? = some d:=by rw [Int.toNat_natCast];exact hdk
    rw [drop_b hdk] at hsc
    have m1:(O.length+1)*1≤140737488355328:=by omega
    have m2:O.length+1≤9223372036854775807:=by omega
    by_cases hz:d=0
    rotate_left
    ·have qz:decide (((d.toNat:Nat):Int)≠0)=true:=decide_eq_true (by
      intro h
      exact hz (UInt8.toNat_inj.1 (by simpa using h)))
     rw [scanT_nz hz] at hsc
     have hsc':scanT l=(O++[d])++scanT (s.drop (k+1)):=by rw [hsc];simp
     have hOl:(O++[d]).length+(i+1)≤k+1:=by rw [List.length_append];simp;omega
     repeat' (first|(refine zBp ?_;refine zBx (l:=O) (a:=d) byC_ok rfl rfl rfl xS xS m1 m2 rfl (fun g' c'=>?_))|(refine zBa ?_;refine zBh rfl xF (by rfl) (by omega) rfl (fun gb=>?_))|(refine zAy ?_;refine zAa (zAp rfl rfl (by omega) hdk') ?_)|(refine zAw ?_;refine zAa (zAg (r:=((k+1:Nat):Int)) rfl rfl (by omega) (by omega)) ?_)|(refine zAx ?_;refine zAa (zBk rfl rfl qz) ?_)|(refine zAm ?_;refine zAa (zAe rfl rfl qk) ?_)|refine xst ?_|(refine xsa ?_;intro _)|(refine xsb ?_ ?_ <;>intro _<;>try (exfalso;omega))|refine xsc ?_|(refine zAb (id:=23) plUFO0 (by kernel_rfl) (by kernel_rfl) ?_)|refine zAj ?_ ?_|refine zAi rfl rfl rfl rfl rfl ?_ ?_|refine zAf ?_ ?_|exact Rech.nil|fail)
     all_goals refine zAu ⟨(k+1,O++[d],g',c'),hlk,hOl,hsc'⟩ (by show s.length-(k+1)<s.length-k;omega) xB (xN)
    have hz0:((d.toNat:Nat):Int)=0:=by rw [hz];rfl
    have qz:decide (((d.toNat:Nat):Int)≠0)=false:=decide_eq_false (by omega)
    rw [hz] at hsc
    by_cases hlk2:k+1<s.length
    rotate_left
    ·have q3:decide (((k+1:Nat):Int)=((s.length:Nat):Int))=true:=decide_eq_true (by omega)
     rw [List.drop_of_length_le (by omega),scanT_zero,List.append_nil] at hsc
     have hpe:kqC p=[.bool false,.int .i64 0,strV O]:=by rw [hpk,hsc];rfl
     rw [hpe] at rest
     repeat' (first|(refine at_seq_region (id:=22) ?_;exact KJ.weak (rest _) xB (xN))|(refine zBe ?_;refine zAa (Ev_bytesB rfl xS rfl) ?_)|(refine zAy ?_;refine zAa (zAp rfl rfl (by omega) hdk') ?_)|(refine zBb ?_;refine zAa (zBc xV xW) ?_)|(refine zAw ?_;refine zAa (zAg (r:=((k+1:Nat):Int)) rfl rfl (by omega) (by omega)) ?_)|(refine zAv ?_;refine zAa (zAh rfl rfl q3) ?_)|(refine zAx ?_;refine zAa (zBk rfl rfl qz) ?_)|(refine zAm ?_;refine zAa (zAe rfl rfl qk) ?_)|refine xst ?_|(refine xsa ?_;intro _)|(refine xsb ?_ ?_ <;>intro _<;>try (exfalso;omega))|refine xsc ?_|(refine zAb (id:=23) plUFO0 (by kernel_rfl) (by kernel_rfl) ?_)|refine zAj ?_ ?_|refine zAi rfl rfl rfl rfl rfl ?_ ?_|refine zAf ?_ ?_|exact Rech.nil|fail)
    have q3:decide (((k+1:Nat):Int)=((s.length:Nat):Int))=false:=decide_eq_false (by omega)
    obtain ⟨e,hek⟩:∃ e,s[k+1]? = some e:=⟨_,List.getElem?_eq_getElem hlk2⟩
    have hek':s[((k+1:Nat):Int).toNat]? = some e:=by rw [Int.toNat_natCast];exact hek
    rw [drop_b hek] at hsc
    by_cases h255:e=255
    rotate_left
    ·have q4:decide (((e.toNat:Nat):Int)≠255)=true:=decide_eq_true (by
      intro h
      exact h255 (UInt8.toNat_inj.1 (by show e.toNat=255;omega)))
     rw [scanT_end h255,List.append_nil] at hsc
     have hpe:kqC p=[.bool false,.int .i64 0,strV O]:=by rw [hpk,hsc];rfl
     rw [hpe] at rest
     repeat' (first|(refine at_seq_region (id:=22) ?_;exact KJ.weak (rest _) xB (xN))|(refine zBe ?_;refine zAa (Ev_bytesB rfl xS rfl) ?_)|(refine zAy ?_;first|refine zAa (zAp rfl rfl (by omega) hdk') ?_|refine zAa (zAp rfl rfl (by omega) hek') ?_)|(refine zBb ?_;refine zAa (zBc xV xW) ?_)|(refine zAw ?_;refine zAa (zAg (r:=((k+1:Nat):Int)) rfl rfl (by omega) (by omega)) ?_)|(refine zAv ?_;refine zAa (zAh rfl rfl q3) ?_)|(refine zAx ?_;first|refine zAa (zBk rfl rfl qz) ?_|refine zAa (zBk rfl rfl q4) ?_)|(refine zAm ?_;refine zAa (zAe rfl rfl qk) ?_)|refine xst ?_|(refine xsa ?_;intro _)|(refine xsb ?_ ?_ <;>intro _<;>try (exfalso;omega))|refine xsc ?_|(refine zAb (id:=23) plUFO0 (by kernel_rfl) (by kernel_rfl) ?_)|refine zAj ?_ ?_|refine zAi rfl rfl rfl rfl rfl ?_ ?_|refine zAf ?_ ?_|exact Rech.nil|fail)
    have q4:decide (((e.toNat:Nat):Int)≠255)=false:=decide_eq_false (by rw [h255];decide)
    rw [h255,scanT_zz] at hsc
    have hsc':scanT l=(O++[0])++scanT (s.drop (k+2)):=by rw [hsc];simp
    have hOl:(O++[0]).length+(i+1)≤k+2:=by rw [List.length_append];simp;omega
    repeat' (first|(refine zBp ?_;refine zBx (l:=O) (a:=(0:UInt8)) byC_ok rfl rfl rfl xS xS m1 m2 rfl (fun g' c'=>?_))|(refine zBa ?_;refine zBh rfl xF (by rfl) (by omega) rfl (fun gb=>?_))|(refine zAy ?_;first|refine zAa (zAp rfl rfl (by omega) hdk') ?_|refine zAa (zAp rfl rfl (by omega) hek') ?_)|(refine zAw ?_;first|refine zAa (zAg (r:=((k+1:Nat):Int)) rfl rfl (by omega) (by omega)) ?_|refine zAa (zAg (r:=((k+2:Nat):Int)) rfl rfl (by omega) (by omega)) ?_)|(refine zAv ?_;refine zAa (zAh rfl rfl q3) ?_)|(refine zAx ?_;first|refine zAa (zBk rfl rfl qz) ?_|refine zAa (zBk rfl rfl q4) ?_)|(refine zAm ?_;refine zAa (zAe rfl rfl qk) ?_)|refine xst ?_|(refine xsa ?_;intro _)|(refine xsb ?_ ?_ <;>intro _<;>try (exfalso;omega))|refine xsc ?_|(refine zAb (id:=23) plUFO0 (by kernel_rfl) (by kernel_rfl) ?_)|refine zAj ?_ ?_|refine zAi rfl rfl rfl rfl rfl ?_ ?_|refine zAf ?_ ?_|exact Rech.nil|fail)
    all_goals refine zAu ⟨(k+2,O++[0],g',c'),hlk2,hOl,hsc'⟩ (by show s.length-(k+2)<s.length-k;omega) xB (xN)
  ·intro g6
   have hkl:(b::l).length=l.length+1:=rfl
   have ba:f.length+i≤9223372036854775807:=by omega
   by_cases hfit:∃ t,b::l=f++t
   ·obtain ⟨t,ht⟩:=hfit
    have hf:=hyes t ht
    have hsh:=firstP_short hf
    have hlen:=congrArg List.length ht
    rw [List.length_append] at hlen
    rw [splitP_some hf,Option.map_map] at hp
    have hp':o=(zCd (s.drop (i+f.length))).map ((M++[p]) ++ ·):=by
     rw [← List.drop_drop,hk,ht,List.drop_left' rfl,hp]
     congr 1
     funext y
     show M++(p::y)=_
     simp
    have qg:decide (((s.length:Nat):Int)<((i+f.length:Nat):Int))=false:=decide_eq_false (by omega)
    have hsl:(s.take ((i+f.length:Nat):Int).toNat).drop ((i:Nat):Int).toNat=f:=by
     rw [Int.toNat_natCast,Int.toNat_natCast,List.drop_take,hk,ht,show i+f.length-i=f.length by omega,List.take_left' rfl]
    have vs:(0:Int)≤((i:Nat):Int)∧((i:Nat):Int)≤((i+f.length:Nat):Int)∧((i+f.length:Nat):Int)≤((s.length:Nat):Int):=by omega
    have m1:(M.length+1)*32≤140737488355328:=by omega
    have m2:M.length+1≤9223372036854775807:=by omega
    have hMl:(M++[p]).length≤i+f.length:=by rw [List.length_append];simp only [List.length_cons,List.length_nil];omega
    repeat' (first|(refine zAd ?_;refine zAc xE cf xP rfl (fun z=>?_);obtain ⟨z1,z2⟩:=z)|(refine zBp ?_;refine zBx (l:=M) (a:=p) kq_ok rfl rfl rfl xS xS m1 m2 rfl (fun g' c'=>?_))|(refine zBa ?_;refine zBh rfl xF (by rfl) (by omega) rfl (fun gb=>?_);show KJ W _ _ _ (zAk gb (kqC p) 94::_))|(refine zBe ?_;refine zAa (Ev_bytesB rfl xS rfl) ?_)|(refine zCf ?_;refine zAa (Ev_sliceStr_t rfl rfl rfl vs hsl) ?_)|(refine zAw ?_;refine zAa (zAg (r:=((i+f.length:Nat):Int)) rfl rfl (by omega) (by omega)) ?_)|(refine zAx ?_;refine zAa (Ev_neqS_f rfl rfl rfl) ?_)|(refine zBg ?_;refine zAa (zAq rfl rfl qg) ?_)|refine xst ?_|(refine xsa ?_;intro _)|(refine xsb ?_ ?_ <;>intro _<;>try (exfalso;omega))|refine xsc ?_|(refine zAb (id:=23) plUFO0 (by kernel_rfl) (by kernel_rfl) ?_)|refine zAj ?_ ?_|refine zAi rfl rfl rfl rfl rfl ?_ ?_|refine zAf ?_ ?_|exact Rech.nil|fail)
    all_goals refine zAu ⟨(i+f.length,M++[p],g',c'),by omega,hMl,hp'⟩ (by show s.length-(i+f.length)<s.length-i;omega) xB (xN)
   ·have hf:=hno (fun t h=>hfit ⟨t,h⟩)
    rw [splitP_none hkn hf] at hp
    have hp:o=none:=by rw [hp];rfl
    subst hp
    by_cases hgt:s.length<i+f.length
    ·have qg:decide (((s.length:Nat):Int)<((i+f.length:Nat):Int))=true:=decide_eq_true (by omega)
     repeat' (first|(refine zAd ?_;refine zAc xE cf xP rfl (fun z=>?_);obtain ⟨z1,z2⟩:=z)|(refine zBa ?_;refine KJ_bslice0 rfl (fun g9=>?_))|(refine zAw ?_;refine zAa (zAg (r:=((i+f.length:Nat):Int)) rfl rfl (by omega) (by omega)) ?_)|(refine zBg ?_;refine zAa (zAq rfl rfl qg) ?_)|refine xst ?_|(refine xsa ?_;intro _)|(refine xsb ?_ ?_ <;>intro _<;>try (exfalso;omega))|refine xsc ?_|(refine zAb (id:=23) plUFO0 (by kernel_rfl) (by kernel_rfl) ?_)|refine zAj ?_ ?_|refine zAi rfl rfl rfl rfl rfl ?_ ?_|refine zAf ?_ ?_|exact Rech.nil|fail)
     all_goals (exact xdn (some ⟨g9,0,none⟩,0))
    ·have qg:decide (((s.length:Nat):Int)<((i+f.length:Nat):Int))=false:=decide_eq_false (by omega)
     have hne:(s.take ((i+f.length:Nat):Int).toNat).drop ((i:Nat):Int).toNat≠f:=by
      rw [Int.toNat_natCast,Int.toNat_natCast,List.drop_take,hk,show i+f.length-i=f.length by omega]
      intro h
      have e:=List.take_append_drop f.length (b::l)
      rw [h] at e
      exact hfit ⟨_,e.symm⟩
     obtain ⟨w,hw⟩:∃ w,w=(s.take ((i+f.length:Nat):Int).toNat).drop ((i:Nat):Int).toNat:=⟨_,rfl⟩
     rw [← hw] at hne
     have vs:(0:Int)≤((i:Nat):Int)∧((i:Nat):Int)≤((i+f.length:Nat):Int)∧((i+f.length:Nat):Int)≤((s.length:Nat):Int):=by omega
     repeat' (first|(refine zAd ?_;refine zAc xE cf xP rfl (fun z=>?_);obtain ⟨z1,z2⟩:=z)|(refine zBa ?_;refine KJ_bslice0 rfl (fun g9=>?_))|(refine zBe ?_;refine zAa (Ev_bytesB rfl xS rfl) ?_)|(refine zCf ?_;refine zAa (Ev_sliceStr_t rfl rfl rfl vs hw.symm) ?_)|(refine zAw ?_;refine zAa (zAg (r:=((i+f.length:Nat):Int)) rfl rfl (by omega) (by omega)) ?_)|(refine zAx ?_;refine zAa (Ev_neqS_t rfl rfl hne) ?_)|(refine zBg ?_;refine zAa (zAq rfl rfl qg) ?_)|refine xst ?_|(refine xsa ?_;intro _)|(refine xsb ?_ ?_ <;>intro _<;>try (exfalso;omega))|refine xsc ?_|(refine zAb (id:=23) plUFO0 (by kernel_rfl) (by kernel_rfl) ?_)|refine zAj ?_ ?_|refine zAi rfl rfl rfl rfl rfl ?_ ?_|refine zAf ?_ ?_|exact Rech.nil|fail)
     all_goals (exact xdn (some ⟨g9,0,none⟩,0))
end
end Go.Proofs.YtnbgcimalpdfoaaGreatDoor
