/-
  WpW1, WpW2.
-/
import Derived.Test.YtnbgcimalpdfoaaGreatDoorVEZ
import Derived.Test.YtnbgcimalpdfoaaGreatDoorVEY
set_option maxHeartbeats 64000000
namespace Go.Proofs.YtnbgcimalpdfoaaGreatDoor
open Go Go.RowKit
section
variable {P:Program} {W:World} {n:Nat} {E:Env} {H:List SP} {t u:TypeId} {x y:Operand} {kd:IntKind}
theorem Ev_quo_u {i j:Int} {r:Nat} (hx:Env.ev E x=some (.int kd i)) (hy:Env.ev E y=some (.int kd j)) (hb:0≤i∧0<j) (h:i / j=(r:Int)) (hw:kd.wrap ((r:Nat):Int)=(r:Int)):Ev P W n E H (.binOp .quo t x y u) (.int kd ((r:Nat):Int)):=by
 have e:kd.wrap (i.tdiv j)=((r:Nat):Int):=by rw [Int.tdiv_eq_ediv_of_nonneg hb.1,h,hw]
 rw [← e]
 exact Ev_quo hx hy (by omega)
end
end Go.Proofs.YtnbgcimalpdfoaaGreatDoor
namespace Go.Proofs.YtnbgcimalpdfoaaGreatDoor
open Go Go.RowKit
section
variable {P:Program} {α:Type} {enc:α→List Value} {sz:Nat} {W:World} {n:Nat} {k:KK} {E:Env} {H R:List SP} {e:TypeId}
theorem KJ.cellsRow {g m:Nat} {vs:List Value} {l:List α} (K:EncOk enc sz) (hs:Sel (zAn g vs e) H R) (hv:l.flatMap enc=vs) (hm:m=l.length) (h63:m≤maxLen) (h:KJ W n k E (lsP enc e sz (.slice (some ⟨g,0,none⟩) m m) l::R)):KJ W n k E H:=by
 subst hv hm
 exact ⟨fun a w q s=>h.go a w q ((s.perm (hs.app _).perm).mono fun g' ⟨h1,h2,dj,l1,l2,a1,a2⟩=>⟨h1,h2,dj,l1,l2,⟨K.flat l,.inr ⟨g,l.length,(l.flatMap enc).toArray,rfl,a1,Nat.le_refl _,h63,by simpa using K.flat l,by have hf:=K.flat l;simp only [];exact List.take_of_length_le (by omega)⟩⟩,a2⟩)⟩
end
section
variable {W:World}
instance fn_dform:FnIs Tryz.prog 95:=⟨by kernel_rfl⟩
instance fn_djoin:FnIs Tryz.prog 63:=⟨by kernel_rfl⟩
theorem dform_ct (s:List UInt8) (hl:(keyT s).length≤140737488355328) :
 Ct Tryz.prog W 95 [.agg (kpC s).toArray] [] (fun x:Nat × Nat=>.slice (some ⟨x.1,0,none⟩) (keyT s).length x.2) (fun x=>[byP (.slice (some ⟨x.1,0,none⟩) (keyT s).length x.2) (keyT s)]):=by
 have hks:=keyT_length s
 have hge:=esc_ge s
 refine Ct.enter Tryz.func95 rfl Tryz.ntmps95 (by simp) (fun R=>?_)
 repeat' (first|(refine zBn ?_;refine zBg rfl xF rfl (fun g1=>?_))|(refine zAw ?_;refine zBa rfl xF (by rfl) (by omega) rfl (fun gb=>?_))|refine xst ?_|(refine xsa ?_;intro _)|(refine xsb ?_ ?_ <;>intro _<;>try (exfalso;omega))|refine xsc ?_|fail)
 refine KJ.cellsRow (g:=gb) (m:=1) (l:=[(2:UInt8)]) byC_ok xS (by rfl) rfl (by decide) ?_
 refine zBe (fun y:{y:Nat × List UInt8 × Option Addr × Nat//y.1≤s.length∧y.2.1=2::esc (s.take y.1)}=>[(1,.pointer (some ⟨g1,0,none⟩)),(6,.slice y.1.2.2.1 y.1.2.1.length y.1.2.2.2),(7,.int .i64 (y.1.1:Nat))])
  (fun y=>[zAn g1 (kpC s) 94,byP (.slice y.1.2.2.1 y.1.2.1.length y.1.2.2.2) y.1.2.1]++R) (fun y=>s.length-y.1.1) ⟨(0,[2],some ⟨gb,0,none⟩,1),Nat.zero_le _,rfl⟩ xB (xN) (fun ⟨(j,M,ma,mc),hj,hM⟩=>?_)
 dsimp only at hj hM ⊢
 have hMl:=congrArg List.length hM
 rw [List.length_cons] at hMl
 by_cases hlt2:j<s.length
 ·have q2:decide ((j:Int)<(s.length:Nat))=true:=decide_eq_true (by omega)
  obtain ⟨y,hy⟩:∃ y,s[j]? = some y:=⟨_,List.getElem?_eq_getElem hlt2⟩
  have hy':s[(j:Int).toNat]? = some y:=by rw [Int.toNat_natCast];exact hy
  have hel:=esc_lenT hy
  have hen:=esc_next hy
  by_cases hz:y=0
  ·have he2:escB y=[y,255]:=(if_pos hz:escB y=[0,255]).trans (by rw [hz])
   have hz0:y.toNat=0:=by rw [hz];simp
   have qz:decide (((y.toNat:Nat):Int)=0)=true:=decide_eq_true (by omega)
   rw [he2] at hel hen
   have hnx:M++[y]++[255]=2::esc (s.take (j+1)):=by rw [hM,hen];simp
   have m1:(M.length+1)*1≤140737488355328:=by simp at hel;omega
   have m2:M.length+1≤9223372036854775807:=by omega
   have m3:((M++[y]).length+1)*1≤140737488355328:=by rw [List.length_append];simp at hel ⊢;omega
   have m4:(M++[y]).length+1≤9223372036854775807:=by omega
   repeat' (first|(refine zBr ?_;refine zCe (d:=42) (l:=M) (a:=y) byC_ok rfl rfl rfl xS xS m1 m2 rfl (fun g2 c2=>?_);refine hold ?_)|(refine zAw ?_;refine zBa rfl xF (by rfl) (by omega) rfl (fun gb=>?_))|(refine zBj ?_;refine zAb (zAt rfl rfl (by omega) hy') ?_)|(refine zAu ?_;refine zAb (zAh (r:=((j+1:Nat):Int)) rfl rfl (by omega) (by omega)) ?_)|(refine zAx ?_;refine zAb (zAf rfl rfl qz) ?_)|(refine zAi ?_;refine zAb (zAd rfl rfl q2) ?_)|refine xst ?_|(refine xsa ?_;intro _)|(refine xsb ?_ ?_ <;>intro _<;>try (exfalso;omega))|refine xsc ?_|fail)
   all_goals refine Hold.mk ?_
   repeat' (first|(refine zBr ?_;refine zCe (d:=50) (l:=M++[y]) (a:=(255:UInt8)) byC_ok rfl rfl rfl xS xS m3 m4 rfl (fun g3 c3=>?_))|(refine zAw ?_;refine zBa rfl xF (by rfl) (by omega) rfl (fun gb=>?_))|(refine zBj ?_;refine zAb (zAt rfl rfl (by omega) hy') ?_)|(refine zAu ?_;refine zAb (zAh (r:=((j+1:Nat):Int)) rfl rfl (by omega) (by omega)) ?_)|(refine zAx ?_;refine zAb (zAf rfl rfl qz) ?_)|refine xst ?_|(refine xsa ?_;intro _)|(refine xsb ?_ ?_ <;>intro _<;>try (exfalso;omega))|refine xsc ?_|fail)
   all_goals refine zAr ⟨(j+1,M++[y]++[255],some ⟨g3,0,none⟩,c3),hlt2,hnx⟩ (by show s.length-(j+1)<s.length-j;omega) xB (xN)
  ·have he2:escB y=[y]:=if_neg hz
   rw [he2] at hel hen
   have hnx:M++[y]=2::esc (s.take (j+1)):=by rw [hM,hen];simp
   have m1:(M.length+1)*1≤140737488355328:=by simp at hel;omega
   have m2:M.length+1≤9223372036854775807:=by omega
   have qz:decide (((y.toNat:Nat):Int)=0)=false:=decide_eq_false (by
    intro h
    exact hz (UInt8.toNat_inj.1 (by simpa using h)))
   repeat' (first|(refine zBr ?_;refine zCe (d:=42) (l:=M) (a:=y) byC_ok rfl rfl rfl xS xS m1 m2 rfl (fun g2 c2=>?_))|(refine zAw ?_;refine zBa rfl xF (by rfl) (by omega) rfl (fun gb=>?_))|(refine zBj ?_;refine zAb (zAt rfl rfl (by omega) hy') ?_)|(refine zAu ?_;refine zAb (zAh (r:=((j+1:Nat):Int)) rfl rfl (by omega) (by omega)) ?_)|(refine zAx ?_;refine zAb (zAf rfl rfl qz) ?_)|(refine zAi ?_;refine zAb (zAd rfl rfl q2) ?_)|refine xst ?_|(refine xsa ?_;intro _)|(refine xsb ?_ ?_ <;>intro _<;>try (exfalso;omega))|refine xsc ?_|fail)
   all_goals refine zAr ⟨(j+1,M++[y],some ⟨g2,0,none⟩,c2),hlt2,hnx⟩ (by show s.length-(j+1)<s.length-j;omega) xB (xN)
 have q2:decide ((j:Int)<(s.length:Nat))=false:=decide_eq_false (by omega)
 rw [List.take_of_length_le (by omega)] at hM hMl
 have hnx:M++[(0:UInt8),1]=keyT s:=by rw [hM];unfold keyT;simp
 have m5:(M.length+[(0:UInt8),1].length)*1≤140737488355328:=by simp;omega
 have m6:M.length+[(0:UInt8),1].length≤9223372036854775807:=by simp;omega
 have p1:0<(M++[(0:UInt8),1]).length:=by simp
 repeat' (first|(refine zBr ?_;refine KJ_appAll (l:=M) (l2:=[(0:UInt8),1]) byC_ok rfl rfl rfl rfl xS (Src.cells (i:=2) xS xC) m5 m6 rfl (fun a2 c2=>?_);refine KJ.lsSome xS p1 (fun g2 hg2=>?_);subst hg2)|(refine zAw ?_;refine KJ_bsliceN (len:=2) (places:=[(0,1),(1,1)]) (base:=[.int .u8 0,.int .u8 0]) xV (by rfl) (by rfl) xW (by omega) rfl (fun gb=>?_))|(refine zAi ?_;refine zAb (zAd rfl rfl q2) ?_)|refine xst ?_|(refine xsa ?_;intro _)|(refine xsb ?_ ?_ <;>intro _<;>try (exfalso;omega))|refine xsc ?_|fail)
 all_goals exact xdn (g2,c2) (hc:=by rw [← hnx];rfl) (hE:=by rw [← hnx];exact (xN))
theorem djoin_ct (A:SP) (a:Option Addr) (c:Nat) (l:List (List UInt8)) (hL:Lv W kpC 3 A a l) (hne:0<l.length) (hlen:(l.flatMap keyT).length≤140737488355328) (hll:l.length≤4611686018427387904) :
 Ct Tryz.prog W 63 [.slice a l.length c] [A] (fun _:Unit=>strV (l.flatMap keyT)) (fun _=>[A]):=by
 refine Ct.enter Tryz.func63 rfl Tryz.ntmps63 (by simp) (fun R=>?_)
 repeat' (first|(refine zAw ?_;refine KJ_bslice0 rfl (fun g0=>?_))|refine xst ?_|(refine xsa ?_;intro _)|(refine xsb ?_ ?_ <;>intro _<;>try (exfalso;omega))|refine xsc ?_|fail)
 refine zBe (fun x:{x:Nat × List UInt8 × Option Addr × Nat//x.1≤l.length∧x.2.1=(l.take x.1).flatMap keyT}=>[(3,.slice x.1.2.2.1 x.1.2.1.length x.1.2.2.2),(7,.slice a l.length c),(8,.int .i64 (l.length:Nat)),(9,.int .i64 (x.1.1:Nat))])
  (fun x=>[A,byP (.slice x.1.2.2.1 x.1.2.1.length x.1.2.2.2) x.1.2.1]++R) (fun x=>l.length-x.1.1) ⟨(0,[],some ⟨g0,0,none⟩,0),Nat.zero_le _,rfl⟩ xB (xN) (fun ⟨(i,O,oa,oc),hi,hO⟩=>?_)
 dsimp only at hi hO ⊢
 by_cases hlt:i<l.length
 rotate_left
 ·have ql:decide ((i:Int)<(l.length:Nat))=false:=decide_eq_false (by omega)
  obtain rfl:i=l.length:=by omega
  rw [List.take_length] at hO
  have hpos:0<O.length:=by
   cases l with
   |nil=>simp at hne
   |cons s l=>rw [hO,List.flatMap_cons,List.length_append,keyT_length];omega
  rw [← hO]
  refine KJ.lsSome xS hpos (fun g hg=>?_)
  subst hg
  repeat' (first|(refine zBi ?_;refine zAb (Ev_bytesB rfl xS rfl) ?_)|(refine zAi ?_;refine zAb (zAd rfl rfl ql) ?_)|refine xst ?_|(refine xsa ?_;intro _)|(refine xsb ?_ ?_ <;>intro _<;>try (exfalso;omega))|refine xsc ?_|fail)
  all_goals (exact xdn ())
 have ql:decide ((i:Int)<(l.length:Nat))=true:=decide_eq_true (by omega)
 obtain ⟨s,hs⟩:∃ s,l[i]? = some s:=⟨_,List.getElem?_eq_getElem hlt⟩
 have hkl:=keys_len hs
 have hkn:=keys_next hs
 rw [← hO] at hkl hkn
 have cf:=dform_ct (W:=W) s (by omega)
 obtain ⟨ks,hks⟩:∃ x,x=keyT s:=⟨_,rfl⟩
 rw [← hks] at hkl hkn cf
 refine KJ.lvSome hL xS (by omega) (fun b of hab=>?_)
 subst hab
 have hoff:of+Int.toNat (i:Int)*3=of+i*3:=by simp
 have b1:(O.length+ks.length)*1≤140737488355328:=by omega
 have b2:O.length+ks.length≤9223372036854775807:=by omega
 repeat' (first|(refine zBd ?_;refine zBb rfl (fun g5=>?_))|(refine zAe ?_;refine zAa xE cf xP rfl (fun x=>?_);obtain ⟨gf,fc⟩:=x)|(refine zBr ?_;refine KJ_appAll (l:=O) (l2:=ks) byC_ok rfl rfl rfl rfl xS (Src.lv (Lv.own (c:=fc) byC_ok rfl) (fun _=>rfl) xS) b1 b2 rfl (fun a2 c2=>?_))|(refine zAp ?_;refine zAb (zBt kp_ok hL rfl rfl xS hoff hs) ?_)|(refine zAu ?_;refine zAb (zAh (r:=((i+1:Nat):Int)) rfl rfl (by omega) (by omega)) ?_)|(refine zAi ?_;refine zAb (zAd rfl rfl ql) ?_)|refine xst ?_|(refine xsa ?_;intro _)|(refine xsb ?_ ?_ <;>intro _<;>try (exfalso;omega))|refine xsc ?_|fail)
 all_goals refine zAr ⟨(i+1,O++ks,a2,c2),hlt,hkn.symm⟩ (by show l.length-(i+1)<l.length-i;omega) xB (xN)
end
end Go.Proofs.YtnbgcimalpdfoaaGreatDoor
