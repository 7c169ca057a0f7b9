/-
  FxW1.
-/
import Derived.Test.YtnbgcimalpdfoaaGreatDoorUCV
import Derived.Test.YtnbgcimalpdfoaaGreatDoorUDG
import Derived.Test.YtnbgcimalpdfoaaGreatDoorUCK
set_option maxHeartbeats 64000000
namespace Go.Proofs.YtnbgcimalpdfoaaGreatDoor
open Go Go.RowKit
abbrev plUDH0:Pl:=(.op 0 (.op 1 (.op 2 .nil)))
abbrev plUDH1:Pl:=(.op 0 (.op 1 (.op 2 (.op 3 (.op 4 (.op 5 (.op 6 (.op 7 (.op 8 (.op 9 (.op 10 (.op 11 (.op 12 (.op 13 (.op 14 (.op 15 (.op 16 (.ef 17 [] .nil))))))))))))))))))
theorem pow8 (i:Nat):(256:Nat) ^ i=2 ^ (8*i):=by rw [Nat.pow_mul]
theorem shl8 (y i:Nat) (hi:i≤7) (hy:y*2 ^ (8*i)<18446744073709551616):ShlF .u64 (y:Int) ((8*i:Nat):Int) ((y*2 ^ (8*i):Nat):Int):=by
 refine ⟨by omega,?_⟩
 have hm:min ((8*i:Nat):Int).toNat IntKind.u64.bits=8*i:=by
  show min ((8*i:Nat):Int).toNat 64=8*i
  omega
 rw [hm]
 have e2:((y:Int)*2 ^ (8*i))=((y*2 ^ (8*i):Nat):Int):=by simp
 rw [e2]
 exact zCc _ hy
theorem or8 (x y i:Nat) (hx:x<2 ^ (8*i)) (hs:y*2 ^ (8*i)+x<18446744073709551616):OrF .u64 (x:Int) ((y*2 ^ (8*i):Nat):Int) ((x+y*2 ^ (8*i):Nat):Int):=by
 refine ⟨?_⟩
 obtain ⟨z,hz⟩:∃ z,z=y*2 ^ (8*i):=⟨_,rfl⟩
 have hor:x ||| z=x+z:=by rw [hz,Nat.or_comm,Nat.mul_comm,← Nat.two_pow_add_eq_or_of_lt hx,Nat.add_comm]
 rw [← hz] at hs ⊢
 have e:bits .or .u64 (x:Int) (z:Int)=IntKind.u64.wrap ((BitVec.ofInt 64 (x:Int) ||| BitVec.ofInt 64 (z:Int)).toNat:Int):=rfl
 have b1:(BitVec.ofInt 64 (x:Int)).toNat=x:=by rw [BitVec.toNat_ofInt];omega
 have b2:(BitVec.ofInt 64 (z:Int)).toNat=z:=by rw [BitVec.toNat_ofInt];omega
 rw [e,BitVec.toNat_or,b1,b2,hor]
 exact zCc _ (by omega)
theorem shr8 (x:Nat):ShrF .u64 (x:Int) 8 ((x / 256:Nat):Int):=by
 refine ⟨by omega,?_⟩
 show (x:Int).fdiv 256=_
 rw [Int.fdiv_eq_ediv_of_nonneg _ (by omega)]
 omega
theorem valB_next {l:List UInt8} {i:Nat} {b:UInt8} (h:l[i]? = some b):valB (l.take (i+1))=valB (l.take i)+b.toNat*2 ^ (8*i):=by
 have hl:=(List.getElem?_eq_some_iff.1 h).1
 rw [List.take_add_one,h,valB_app,List.length_take,Nat.min_eq_left (by omega),← pow8]
 show valB (l.take i)+256 ^ i*(b.toNat+256*0)=_
 rw [Nat.mul_zero,Nat.add_zero,Nat.mul_comm]
section
variable {W:World} {F:Nat→Addr} {p:Nat} {l s:List UInt8} {a:Nat}
instance fn_wlow:FnIs Tryz.prog 119:=⟨by kernel_rfl⟩
theorem wlow_ct (x n:Nat) (hn:n≤1000) (hl:l.length+n≤140737488355328):Ct Tryz.prog W 119 [.pointer (some ⟨p,0,none⟩),.int .u64 (x:Nat),.int .i64 (n:Nat)] [WrP p l] (fun _:Unit=>.tuple #[]) (fun _=>[WrP p (l++loB n x)]):=by
 refine Ct.enter Tryz.func119 rfl Tryz.ntmps119 (by simp) (fun R=>?_)
 repeat' (first|refine xst ?_|(refine xsa ?_;intro _)|(refine xsb ?_ ?_ <;>intro _<;>try (exfalso;omega))|refine xsc ?_|fail)
 refine zBm (fun i:{i:List UInt8 × Nat × Nat//i.2.2≤n∧i.1++loB i.2.2 i.2.1=l++loB n x}=>[(0,.pointer (some ⟨p,0,none⟩)),(1,.int .u64 (i.1.2.1:Nat)),(6,.int .i64 (n:Nat)),(7,.int .i64 (n-i.1.2.2:Nat))])
  (fun i=>[WrP p i.1.1]++R) (fun i=>i.1.2.2) ⟨(l,x,n),Nat.le_refl _,rfl⟩ (by dsimp only;rw [Nat.sub_self];exact xB) (xN) (fun ⟨(m,y,f),hf,hi⟩=>?_)
 dsimp only at hf hi ⊢
 have hlen:=congrArg List.length hi
 rw [List.length_append,List.length_append,loB_len,loB_len] at hlen
 cases f with
 |zero=>
  have ql:decide (((n-0:Nat):Int)<(n:Nat))=false:=decide_eq_false (by omega)
  rw [show loB 0 y=[] from rfl,List.append_nil] at hi
  repeat' (first|(refine zAm ?_;refine zAa (zAe rfl rfl ql) ?_)|refine xst ?_|(refine xsa ?_;intro _)|(refine xsb ?_ ?_ <;>intro _<;>try (exfalso;omega))|refine xsc ?_|fail)
  all_goals exact xdn () (hE:=by rw [← hi];exact (xN))
 |succ f=>
  have ql:decide (((n-(f+1):Nat):Int)<(n:Nat))=true:=decide_eq_true (by omega)
  have e1:IntKind.u8.wrap ((y:Nat):Int)=((UInt8.ofNat (y % 256)).toNat:Int):=by rw [u8_wrap,UInt8.toNat_ofNat'];omega
  have hnx:m++[UInt8.ofNat (y % 256)]++loB f (y / 256)=l++loB n x:=by rw [← hi,List.append_assoc];rfl
  have b1:(m.length+1)*1≤140737488355328:=by omega
  have b2:m.length+1≤9223372036854775807:=by omega
  refine KJ.wrOpen xS (fun a c=>?_)
  repeat' (first|(refine zBp ?_;refine zBx (a:=UInt8.ofNat (y % 256)) byC_ok rfl rfl rfl xS xS b1 b2 rfl (fun g' c'=>?_))|(refine zBa ?_;refine zBh rfl xF (by rfl) (by omega) rfl (fun gb=>?_))|(refine zBe ?_;refine zAa (zAs rfl e1) ?_)|(refine zAw ?_;refine zAa (zAg (r:=((n-f:Nat):Int)) rfl rfl (by omega) (by omega)) ?_)|(refine ek_shr ?_;refine zAa (Ev_shr_s rfl rfl (shr8 y)) ?_)|(refine zAm ?_;refine zAa (zAe rfl rfl ql) ?_)|refine xst ?_|(refine xsa ?_;intro _)|(refine xsb ?_ ?_ <;>intro _<;>try (exfalso;omega))|refine xsc ?_|fail)
  all_goals refine KJ.packs (tag:=41) (key:=p) (F:=wrF p (m++[UInt8.ofNat (y % 256)])) (some ⟨g',0,none⟩,c') xP ?_
  all_goals refine zAu ⟨(m++[UInt8.ofNat (y % 256)],y / 256,f),Nat.le_of_succ_le hf,hnx⟩ (by show f<f+1;omega) xB (xN)
theorem wfixed_ct (x:Nat) (hl:l.length+8≤140737488355328):Ct Tryz.prog W 60 [.pointer (some ⟨p,0,none⟩),.int .u64 (x:Nat)] [WrP p l] (fun _:Unit=>.tuple #[]) (fun _=>[WrP p (l++loB 8 x)]):=by
 have cl:=wlow_ct (W:=W) (p:=p) (l:=l) x 8 (by omega) hl
 refine Ct.enter Tryz.func60 rfl Tryz.ntmps60 (by simp) (fun R=>?_)
 repeat' (first|(refine zAd ?_;refine zAc xE cl xP rfl (fun _=>?_))|refine xst ?_|(refine xsa ?_;intro _)|(refine xsb ?_ ?_ <;>intro _<;>try (exfalso;omega))|refine xsc ?_|fail)
 all_goals (exact xdn ())
instance fn_rlow:FnIs Tryz.prog 176:=⟨by kernel_rfl⟩
theorem rlow8_ct (ha:a+8≤s.length) (hs:s.length≤9223372036854775000) :
 Ct Tryz.prog W 176 [.pointer (some ⟨p,0,none⟩),.int .i64 8] [rdP p s a] (fun _:Unit=>.tuple #[.int .u64 (valB ((s.drop a).take 8):Nat),.nilIface]) (fun _=>[rdP p s (a+8)]):=by
 have cl:=rleft_ct (W:=W) (p:=p) (s:=s) (a:=a) (by omega) (by omega)
 have ql:decide (((s.length-a:Nat):Int)<8)=false:=decide_eq_false (by omega)
 have hdl:(s.drop a).length=s.length-a:=List.length_drop
 refine Ct.enter Tryz.func176 rfl Tryz.ntmps176 (by simp) (fun R=>?_)
 repeat' (first|(refine zAd ?_;refine zAc xE cl xP rfl (fun _=>?_))|(refine zAm ?_;refine zAa (zAe rfl rfl ql) ?_)|refine xst ?_|(refine xsa ?_;intro _)|(refine xsb ?_ ?_ <;>intro _<;>try (exfalso;omega))|refine xsc ?_|(refine zAb (id:=2) plUDH0 (by kernel_rfl) (by kernel_rfl) ?_)|(refine zAb (id:=7) plUDH1 (by kernel_rfl) (by kernel_rfl) ?_)|refine zAj ?_ ?_|refine zAi rfl rfl rfl rfl rfl ?_ ?_|refine zAf ?_ ?_|exact Rech.nil|fail)
 refine zBm (fun i:{i:Nat × Nat//i.1≤8∧i.2=valB ((s.drop a).take i.1)}=>[(0,.pointer (some ⟨p,0,none⟩)),(1,.int .i64 8),(6,.int .u64 (i.1.2:Nat)),(13,.int .i64 8),(14,.int .i64 (i.1.1:Nat))])
  (fun _=>[rdP p s a]++R) (fun i=>8-i.1.1) ⟨(0,0),by omega,rfl⟩ xB (xN) (fun ⟨(i,x),hi,hx⟩=>?_)
 dsimp only at hi hx ⊢
 by_cases hlt:i<8
 ·have q1:decide ((i:Int)<8)=true:=decide_eq_true (by omega)
  obtain ⟨b,hb⟩:∃ b,(s.drop a)[i]? = some b:=⟨_,List.getElem?_eq_getElem (by omega)⟩
  have hbs:s[((a+i:Nat):Int).toNat]? = some b:=by rw [Int.toNat_natCast,← List.getElem?_drop];exact hb
  have hbt:=UInt8.toNat_lt b
  have c1:IntKind.u64.wrap ((b.toNat:Nat):Int)=((b.toNat:Nat):Int):=zCc _ (by omega)
  have hnx:=valB_next hb
  have hxl:=valB_lt ((s.drop a).take i)
  rw [List.length_take,Nat.min_eq_left (by omega),pow8,← hx] at hxl
  have hnl:=valB_lt ((s.drop a).take (i+1))
  rw [List.length_take,Nat.min_eq_left (by omega),pow8,hnx,← hx] at hnl
  have hp:(2:Nat) ^ (8*(i+1))≤2 ^ 64:=Nat.pow_le_pow_right (by omega) (by omega)
  have hp2:(2:Nat) ^ 64=18446744073709551616:=by decide
  rw [← hx] at hnx
  have sh:=shl8 b.toNat i (by omega) (by omega)
  have orr:=or8 x b.toNat i hxl (by omega)
  repeat' (first|(refine zBe ?_;refine zAa (zAs rfl c1) ?_)|(refine zAy ?_;refine zAa (zAp rfl rfl (by omega) hbs) ?_)|(refine zAw ?_;first|refine zAa (zAg (r:=((a+i:Nat):Int)) rfl rfl (by omega) (by omega)) ?_|refine zAa (zAg (r:=((i+1:Nat):Int)) rfl rfl (by omega) (by omega)) ?_)|(refine ek_mul ?_;refine zAa (Ev_mulI_v (r:=((8*i:Nat):Int)) rfl rfl (by omega) (by omega)) ?_)|(refine ek_or ?_;refine zAa (Ev_or_s rfl rfl orr) ?_)|(refine ek_shl ?_;refine zAa (Ev_shl_t rfl rfl sh) ?_)|(refine zAm ?_;refine zAa (zAe rfl rfl q1) ?_)|refine xst ?_|(refine xsa ?_;intro _)|(refine xsb ?_ ?_ <;>intro _<;>try (exfalso;omega))|refine xsc ?_|(refine zAb (id:=2) plUDH0 (by kernel_rfl) (by kernel_rfl) ?_)|(refine zAb (id:=7) plUDH1 (by kernel_rfl) (by kernel_rfl) ?_)|refine zAj ?_ ?_|refine zAi rfl rfl rfl rfl rfl ?_ ?_|refine zAf ?_ ?_|exact Rech.nil|fail)
  all_goals refine zAu ⟨(i+1,x+b.toNat*2 ^ (8*i)),hlt,hnx.symm⟩ (by show 8-(i+1)<8-i;omega) xB (xN)
 ·have q1:decide ((i:Int)<8)=false:=decide_eq_false (by omega)
  obtain rfl:i=8:=by omega
  repeat' (first|(refine zAw ?_;refine zAa (zAg (r:=((a+8:Nat):Int)) rfl rfl (by omega) (by omega)) ?_)|(refine zAm ?_;refine zAa (zAe rfl rfl q1) ?_)|refine xst ?_|(refine xsa ?_;intro _)|(refine xsb ?_ ?_ <;>intro _<;>try (exfalso;omega))|refine xsc ?_|(refine zAb (id:=2) plUDH0 (by kernel_rfl) (by kernel_rfl) ?_)|(refine zAb (id:=7) plUDH1 (by kernel_rfl) (by kernel_rfl) ?_)|refine zAj ?_ ?_|refine zAi rfl rfl rfl rfl rfl ?_ ?_|refine zAf ?_ ?_|exact Rech.nil|fail)
  all_goals exact xdn () (hc:=by rw [← hx];rfl)
theorem rfixed_ct (ha:a+8≤s.length) (hs:s.length≤9223372036854775000) :
 Ct Tryz.prog W 118 [.pointer (some ⟨p,0,none⟩)] [rdP p s a] (fun _:Unit=>.tuple #[.int .u64 (valB ((s.drop a).take 8):Nat),.nilIface]) (fun _=>[rdP p s (a+8)]):=by
 have cl:=rlow8_ct (W:=W) (p:=p) ha hs
 obtain ⟨v,hv⟩:∃ v,v=valB ((s.drop a).take 8):=⟨_,rfl⟩
 rw [← hv] at cl ⊢
 refine Ct.enter Tryz.func118 rfl Tryz.ntmps118 (by simp) (fun R=>?_)
 repeat' (first|(refine zAd ?_;refine zAc xE cl xP rfl (fun _=>?_))|refine xst ?_|(refine xsa ?_;intro _)|(refine xsb ?_ ?_ <;>intro _<;>try (exfalso;omega))|refine xsc ?_|fail)
 all_goals (exact xdn ())
end
end Go.Proofs.YtnbgcimalpdfoaaGreatDoor
