/-
  StP2, BaW4, StW8.
-/
import Derived.Test.YtnbgcimalpdfoaaGreatDoorVDQ
import Derived.Test.YtnbgcimalpdfoaaGreatDoorVEY
import Derived.Test.YtnbgcimalpdfoaaGreatDoorVBB
import Derived.Test.YtnbgcimalpdfoaaGreatDoorVDZ
import Derived.Test.YtnbgcimalpdfoaaGreatDoorVEI
set_option maxHeartbeats 64000000
namespace Go.Proofs.YtnbgcimalpdfoaaGreatDoor
open Go Go.RowKit
abbrev plVEJ0:Pl:=(.op 0 (.op 1 (.op 2 (.op 3 (.op 4 (.op 5 (.op 6 (.op 7 (.op 8 (.op 9 (.op 10 (.op 11 .nil))))))))))))
abbrev plVEJ1:Pl:=(.op 0 (.op 1 (.op 2 .nil)))
abbrev plVEJ2:Pl:=(.op 0 (.op 1 (.op 2 (.op 3 (.op 4 (.op 5 (.op 6 (.op 7 (.op 8 (.op 9 (.op 10 (.op 11 (.op 12 (.op 13 (.op 14 (.op 15 (.op 16 .nil)))))))))))))))))
theorem nrm_len (l:List BOp):(normD l).length≤l.length:=by
 induction l with
 |nil=>exact Nat.le_refl _
 |cons o r ih=>
  unfold normD
  split
  ·rw [List.length_cons];omega
  ·rw [insB_eq]
   have:=atB_le (f:=BOp.key) (normD r) o.nrm.key
   simp only [List.length_append,List.length_take,List.length_drop,List.length_cons,List.length_nil]
   omega
theorem ap_calmS (at_ ver used:Nat):∀ (ps:List (List UInt8)) (i:Nat) (D:Dsk),Calm D→
 Calm (apGo at_ ver used ps i D).2:=by
 intro ps
 induction ps with
 |nil=>intro i D h;exact h
 |cons q ps ih=>
  intro i D h
  have hc:=(writeD_calm h ((at_:Int)+(used:Nat)+(i:Nat)) (zBh (zBp ver (used+i):Nat) q)).1
  unfold apGo
  split
  ·exact hc
  ·exact ih _ _ hc
theorem ap_rest {D:Dsk} (hr:Rest D) {at_ v used:Nat} {ps:List (List UInt8)} (hp:∀ p ∈ ps,p.length≤234) (hf:at_+used+ps.length≤D.n) :
 (apGo at_ v used ps 0 D).1=true∧(apGo at_ v used ps 0 D).2.off=false∧(apGo at_ v used ps 0 D).2.life=D.life∧(apGo at_ v used ps 0 D).2.und.length=ps.length∧(apGo at_ v used ps 0 D).2.n=D.n∧(apGo at_ v used ps 0 D).2.flushE=0∧
 Rest (apGo at_ v used ps 0 D).2.flushD∧(apGo at_ v used ps 0 D).2.flushD.n=D.n∧(apGo at_ v used ps 0 D).2.flushD.life=D.life∧
 ∀ j,j<D.n→(j<at_+used∨at_+used+ps.length≤j)→(apGo at_ v used ps 0 D).2.flushD.sec j=D.sec j:=by
 obtain ⟨w1,w2,w3,w4,w5⟩:=ap_ways at_ v used ps 0 D hr.calm.1 hr.ok hp (by omega)
 have hc:=ap_calmS at_ v used ps 0 D hr.calm
 obtain ⟨A,hA⟩:∃ A,A=apGo at_ v used ps 0 D:=⟨_,rfl⟩
 rw [← hA] at w1 w2 w3 w4 w5 hc ⊢
 clear hA
 rcases w1 with ⟨a1,a2,a3⟩|⟨_,a2,_⟩
 rotate_left
 ·rw [hc.1] at a2;cases a2
 rw [hr.und,List.nil_append,Nat.add_zero] at a3
 obtain ⟨f1,f2,f3,f4,f5⟩:=flushD_calm hc
 refine ⟨a1,a2,w5,by rw [a3,wsJ_length],w3,f3,⟨f1,f4,Dsk.flushD_ok w4⟩,by rw [f2,w3],by rw [flushD_life,w5],fun j hj hjo=>?_⟩
 unfold Dsk.sec
 rw [f5,a3,w2]
 exact layAll_off D.n j _ _ hr.ok.len fun x hx=>by
  obtain ⟨b1,b2,b3⟩:=wsJ_in at_ v ps used hp x hx
  exact ⟨by omega,by omega,by omega⟩
end Go.Proofs.YtnbgcimalpdfoaaGreatDoor
namespace Go.Proofs.YtnbgcimalpdfoaaGreatDoor
open Go Go.RowKit
section
variable {W:World} {F:Nat→Addr}
theorem bencode_ct (A:SP) (a:Option Addr) (c:Nat) (ops:List BOp) (hL:Lv W opC 3 A a ops) (hlen:(encAll ops).length+64≤140737488355328) (h63:ops.length≤140737488355328)
 (e4:(encode ops).2=4→W.cell? ⟨17,0,none⟩=some (errV F 4)) (e7:(encode ops).2=7→W.cell? ⟨3,0,none⟩=some (errV F 7)) :
 Ct Tryz.prog W 144 [.slice a ops.length c] [A] (fun _:Unit=>.tuple #[strV (encode ops).1,errV F (encode ops).2]) (fun _=>[A]):=by
 have cn:=wnew_ct (W:=W)
 have cu:∀ p,Ct Tryz.prog W 161 [.pointer (some ⟨p,0,none⟩),.int .u64 (ops.length:Nat)] [WrP p []] (fun _:Unit=>.tuple #[]) (fun _=>[WrP p (encTo ops 0)]):=fun p=>by
  have:=wuint_ct (W:=W) (p:=p) (l:=[]) ops.length (by omega) (by simp)
  rw [encTo_zero];exact this
 have e1:IntKind.u64.wrap ((ops.length:Nat):Int)=((ops.length:Nat):Int):=zCd _ (by omega)
 refine Ct.enter Tryz.func144 rfl Tryz.ntmps144 (by simp) (fun R=>?_)
 repeat' (first|refine xst ?_|(refine xsa ?_;intro _)|(refine xsb ?_ ?_ <;>intro _<;>try (exfalso;omega))|refine xsc ?_|(refine zAc (id:=4) plVEJ0 (by kernel_rfl) (by kernel_rfl) ?_)|(refine zAc (id:=5) plVEJ1 (by kernel_rfl) (by kernel_rfl) ?_)|(refine zAc (id:=16) plVEJ1 (by kernel_rfl) (by kernel_rfl) ?_)|refine zAm ?_ ?_|refine zAk rfl rfl rfl rfl rfl ?_ ?_|refine zAg ?_ ?_|exact Rech.nil|fail)
 refine zBe (fun i:{i:Nat//(i=0∨i<ops.length)∧AdjTo ops (i+1)}=>[(0,.slice a ops.length c),(4,.int .i64 ((i.1+1:Nat):Int))])
  (fun i=>[A]++R) (fun i=>ops.length-i.1) ⟨0,.inl rfl,AdjTo.one ops⟩ xB (xN) (fun ⟨i,hi,hadj⟩=>?_)
 dsimp only
 by_cases hlt:i+1<ops.length
 ·have ql:decide (((i+1:Nat):Int)<(ops.length:Nat))=true:=decide_eq_true (by omega)
  obtain ⟨x,hx⟩:∃ s,ops[i]? = some s:=⟨_,List.getElem?_eq_getElem (by omega)⟩
  obtain ⟨y,hy⟩:∃ s,ops[i+1]? = some s:=⟨_,List.getElem?_eq_getElem hlt⟩
  refine KJ.lvSome hL xS (by omega) (fun b of hab=>?_)
  subst hab
  have ho1:of+Int.toNat ((i+1:Nat):Int)*3+1=of+(i+1)*3+1:=by simp
  have ho0:of+Int.toNat ((i:Nat):Int)*3+1=of+i*3+1:=by simp
  have kx:(opC x)[1]? = some (strV x.key):=rfl
  have ky:(opC y)[1]? = some (strV y.key):=rfl
  have hle:=leq_not y.key x.key
  cases hl:Op.bytesLess x.key y.key with
  |true=>
   rw [hl,Bool.not_true] at hle
   repeat' (first|(refine zAp ?_;first|refine zAb (Ev_loadLvF enc_op hL rfl rfl xS ho0 hx kx) ?_|refine zAb (Ev_loadLvF enc_op hL rfl rfl xS ho1 hy ky) ?_)|(refine zAu ?_;refine zAb (zAh (r:=((i+1+1:Nat):Int)) rfl rfl (by omega) (by omega)) ?_)|(refine ek_sub ?_;refine zAb (Ev_subI_v (r:=((i:Nat):Int)) rfl rfl (by omega) (by omega)) ?_)|(refine zAi ?_;refine zAb (zAd rfl rfl ql) ?_)|(refine ek_leq ?_;refine zAb (Ev_leqS_q rfl rfl hle) ?_)|refine xst ?_|(refine xsa ?_;intro _)|(refine xsb ?_ ?_ <;>intro _<;>try (exfalso;omega))|refine xsc ?_|(refine zAc (id:=4) plVEJ0 (by kernel_rfl) (by kernel_rfl) ?_)|(refine zAc (id:=5) plVEJ1 (by kernel_rfl) (by kernel_rfl) ?_)|(refine zAc (id:=16) plVEJ1 (by kernel_rfl) (by kernel_rfl) ?_)|refine zAm ?_ ?_|refine zAk rfl rfl rfl rfl rfl ?_ ?_|refine zAg ?_ ?_|exact Rech.nil|fail)
   all_goals refine zAr ⟨i+1,.inr hlt,hadj.next hx hy hl⟩ (by show ops.length-(i+1)<ops.length-i;omega) xB (xN)
  |false=>
   rw [hl,Bool.not_false] at hle
   have he:=encode_order (rises_not hx hy hl)
   have e4':=e4 (by rw [he])
   repeat' (first|(refine zAp ?_;first|refine zAb (zAq rfl e4') ?_|refine zAb (Ev_loadLvF enc_op hL rfl rfl xS ho0 hx kx) ?_|refine zAb (Ev_loadLvF enc_op hL rfl rfl xS ho1 hy ky) ?_)|(refine ek_sub ?_;refine zAb (Ev_subI_v (r:=((i:Nat):Int)) rfl rfl (by omega) (by omega)) ?_)|(refine zAi ?_;refine zAb (zAd rfl rfl ql) ?_)|(refine ek_leq ?_;refine zAb (Ev_leqS_q rfl rfl hle) ?_)|refine xst ?_|(refine xsa ?_;intro _)|(refine xsb ?_ ?_ <;>intro _<;>try (exfalso;omega))|refine xsc ?_|(refine zAc (id:=4) plVEJ0 (by kernel_rfl) (by kernel_rfl) ?_)|(refine zAc (id:=5) plVEJ1 (by kernel_rfl) (by kernel_rfl) ?_)|(refine zAc (id:=16) plVEJ1 (by kernel_rfl) (by kernel_rfl) ?_)|refine zAm ?_ ?_|refine zAk rfl rfl rfl rfl rfl ?_ ?_|refine zAg ?_ ?_|exact Rech.nil|fail)
   all_goals exact xdn () (hc:=by rw [he];rfl)
 have ql:decide (((i+1:Nat):Int)<(ops.length:Nat))=false:=decide_eq_false (by omega)
 have hr:risesB ops=true:=AdjTo.rises (ops:=ops) fun j x y hj hx hy=>hadj j x y (by omega) hx hy
 repeat' (first|(refine zAe ?_;first|(refine zAa xE cn xP rfl (fun p=>?_))|(refine zAa xE (cu p) xP rfl (fun _=>?_)))|(refine zBi ?_;refine zAb (zAs rfl e1) ?_)|(refine zAi ?_;refine zAb (zAd rfl rfl ql) ?_)|refine xst ?_|(refine xsa ?_;intro _)|(refine xsb ?_ ?_ <;>intro _<;>try (exfalso;omega))|refine xsc ?_|(refine zAc (id:=4) plVEJ0 (by kernel_rfl) (by kernel_rfl) ?_)|(refine zAc (id:=5) plVEJ1 (by kernel_rfl) (by kernel_rfl) ?_)|(refine zAc (id:=16) plVEJ1 (by kernel_rfl) (by kernel_rfl) ?_)|refine zAm ?_ ?_|refine zAk rfl rfl rfl rfl rfl ?_ ?_|refine zAg ?_ ?_|exact Rech.nil|fail)
 refine zBe (fun i:{i:Nat//i≤ops.length∧∀ j o,ops[j]? = some o→j<i→formB o=true}=>[(5,.pointer (some ⟨p,0,none⟩)),(33,.slice a ops.length c),(34,.int .i64 (ops.length:Nat)),(35,.int .i64 (i.1:Nat))])
  (fun i=>[WrP p (encTo ops i.1),A]++R) (fun i=>ops.length-i.1) ⟨0,Nat.zero_le _,fun _ _ _ h=>absurd h (by omega)⟩ xB (xN) (fun ⟨i,hi,hf⟩=>?_)
 dsimp only
 by_cases hlt:i<ops.length
 ·have ql:decide ((i:Int)<(ops.length:Nat))=true:=decide_eq_true (by omega)
  obtain ⟨o,ho⟩:∃ s,ops[i]? = some s:=⟨_,List.getElem?_eq_getElem hlt⟩
  refine KJ.lvSome hL xS (by omega) (fun b of hab=>?_)
  subst hab
  have hoff:of+Int.toNat (i:Int)*3=of+i*3:=by simp
  have htot:=encTo_len ho
  have hnx:=encTo_next ho
  have hfn:formB o=true→∀ j o',ops[j]? = some o'→j<i+1→formB o'=true:=fun hfo j o' h1 h2=>by
   by_cases e:j=i
   ·subst e;rw [ho] at h1;cases h1;exact hfo
   ·exact hf j o' h1 (by omega)
  obtain ⟨X,hX⟩:∃ X,X=encTo ops i:=⟨_,rfl⟩
  rw [← hX] at htot hnx ⊢
  obtain ⟨del,key,val⟩:=o
  have tk:=tx_len key
  have tv:=tx_len val
  cases del with
  |false=>
   rw [encOp_put] at htot hnx
   simp only [List.length_cons,List.length_append] at htot
   have c1:=wbyte_ct (W:=W) (p:=p) (l:=X) 0 (by omega)
   have c2:=wtext_ct (W:=W) (p:=p) (l:=X++[0]) key (by simp only [List.length_append,List.length_singleton];omega)
   have c3:Ct Tryz.prog W 126 [.pointer (some ⟨p,0,none⟩),strV val] [WrP p (X++[0]++tx key)] (fun _:Unit=>.tuple #[]) (fun _=>[WrP p (encTo ops (i+1))]):=by
    have:=wtext_ct (W:=W) (p:=p) (l:=X++[0]++tx key) val (by simp only [List.length_append,List.length_singleton];omega)
    rw [hnx]
    simpa only [List.append_assoc,List.singleton_append,List.cons_append,List.nil_append] using this
   repeat' (first|(refine zBd ?_;refine zBb rfl (fun g5=>?_))|(refine zAe ?_;first|(refine zAa xE c3 xP rfl (fun _=>?_))|(refine zAa xE c2 xP rfl (fun _=>?_))|(refine zAa xE c1 xP rfl (fun _=>?_)))|(refine zAp ?_;refine zAb (zBt enc_op hL rfl rfl xS hoff ho) ?_)|(refine zAu ?_;refine zAb (zAh (r:=((i+1:Nat):Int)) rfl rfl (by omega) (by omega)) ?_)|(refine zAi ?_;refine zAb (zAd rfl rfl ql) ?_)|refine xst ?_|(refine xsa ?_;intro _)|(refine xsb ?_ ?_ <;>intro _<;>try (exfalso;omega))|refine xsc ?_|(refine zAc (id:=4) plVEJ0 (by kernel_rfl) (by kernel_rfl) ?_)|(refine zAc (id:=5) plVEJ1 (by kernel_rfl) (by kernel_rfl) ?_)|(refine zAc (id:=16) plVEJ1 (by kernel_rfl) (by kernel_rfl) ?_)|refine zAm ?_ ?_|refine zAk rfl rfl rfl rfl rfl ?_ ?_|refine zAg ?_ ?_|exact Rech.nil|fail)
   all_goals refine zAr ⟨i+1,hlt,hfn rfl⟩ (by show ops.length-(i+1)<ops.length-i;omega) xB (xN)
  |true=>
   by_cases hv:val=[]
   ·subst hv
    rw [encOp_del] at htot hnx
    simp only [List.length_cons] at htot
    have c1:=wbyte_ct (W:=W) (p:=p) (l:=X) 1 (by omega)
    have c2:Ct Tryz.prog W 126 [.pointer (some ⟨p,0,none⟩),strV key] [WrP p (X++[1])] (fun _:Unit=>.tuple #[]) (fun _=>[WrP p (encTo ops (i+1))]):=by
     have:=wtext_ct (W:=W) (p:=p) (l:=X++[1]) key (by simp only [List.length_append,List.length_singleton];omega)
     rw [hnx]
     simpa only [List.append_assoc,List.singleton_append,List.cons_append,List.nil_append] using this
    repeat' (first|(refine zBd ?_;refine zBb rfl (fun g5=>?_))|(refine zAe ?_;first|(refine zAa xE c2 xP rfl (fun _=>?_))|(refine zAa xE c1 xP rfl (fun _=>?_)))|(refine zAp ?_;refine zAb (zBt enc_op hL rfl rfl xS hoff ho) ?_)|(refine zAu ?_;refine zAb (zAh (r:=((i+1:Nat):Int)) rfl rfl (by omega) (by omega)) ?_)|(refine zBc ?_;refine zAb (Ev_neqS_f rfl rfl rfl) ?_)|(refine zAi ?_;refine zAb (zAd rfl rfl ql) ?_)|refine xst ?_|(refine xsa ?_;intro _)|(refine xsb ?_ ?_ <;>intro _<;>try (exfalso;omega))|refine xsc ?_|(refine zAc (id:=4) plVEJ0 (by kernel_rfl) (by kernel_rfl) ?_)|(refine zAc (id:=5) plVEJ1 (by kernel_rfl) (by kernel_rfl) ?_)|(refine zAc (id:=16) plVEJ1 (by kernel_rfl) (by kernel_rfl) ?_)|refine zAm ?_ ?_|refine zAk rfl rfl rfl rfl rfl ?_ ?_|refine zAg ?_ ?_|exact Rech.nil|fail)
    all_goals refine zAr ⟨i+1,hlt,hfn rfl⟩ (by show ops.length-(i+1)<ops.length-i;omega) xB (xN)
   ·have he:=encode_form hr ho (by unfold formB;simp [hv])
    have e7':=e7 (by rw [he])
    repeat' (first|(refine zBd ?_;refine zBb rfl (fun g5=>?_))|(refine zAp ?_;first|refine zAb (zAq rfl e7') ?_|refine zAb (zBt enc_op hL rfl rfl xS hoff ho) ?_)|(refine zBc ?_;refine zAb (Ev_neqS_t rfl rfl hv) ?_)|(refine zAi ?_;refine zAb (zAd rfl rfl ql) ?_)|refine xst ?_|(refine xsa ?_;intro _)|(refine xsb ?_ ?_ <;>intro _<;>try (exfalso;omega))|refine xsc ?_|(refine zAc (id:=4) plVEJ0 (by kernel_rfl) (by kernel_rfl) ?_)|(refine zAc (id:=5) plVEJ1 (by kernel_rfl) (by kernel_rfl) ?_)|(refine zAc (id:=16) plVEJ1 (by kernel_rfl) (by kernel_rfl) ?_)|refine zAm ?_ ?_|refine zAk rfl rfl rfl rfl rfl ?_ ?_|refine zAg ?_ ?_|exact Rech.nil|fail)
    all_goals exact xdn () (hc:=by rw [he];rfl)
 have ql:decide ((i:Int)<(ops.length:Nat))=false:=decide_eq_false (by omega)
 obtain rfl:i=ops.length:=by omega
 have he:=encode_ok hr (fun j o h1 h2=>hf j o h1 h2)
 rw [encTo_all]
 have hp:=encTo_pos ops ops.length
 rw [encTo_all] at hp
 have co:=wout_ct (W:=W) (p:=p) (l:=encAll ops) hp
 repeat' (first|(refine zAe ?_;refine zAa xE co xP rfl (fun _=>?_))|(refine zAi ?_;refine zAb (zAd rfl rfl ql) ?_)|refine xst ?_|(refine xsa ?_;intro _)|(refine xsb ?_ ?_ <;>intro _<;>try (exfalso;omega))|refine xsc ?_|(refine zAc (id:=4) plVEJ0 (by kernel_rfl) (by kernel_rfl) ?_)|(refine zAc (id:=5) plVEJ1 (by kernel_rfl) (by kernel_rfl) ?_)|(refine zAc (id:=16) plVEJ1 (by kernel_rfl) (by kernel_rfl) ?_)|refine zAm ?_ ?_|refine zAk rfl rfl rfl rfl rfl ?_ ?_|refine zAg ?_ ?_|exact Rech.nil|fail)
 all_goals exact xdn () (hc:=by rw [he];rfl)
end
end Go.Proofs.YtnbgcimalpdfoaaGreatDoor
namespace Go.Proofs.YtnbgcimalpdfoaaGreatDoor
open Go Go.RowKit
abbrev jouU (g d:Nat) (n v used:Nat) (life:Int):SP:=zAn g [.pointer (some ⟨d,0,none⟩),.int .i64 (logAt n:Nat),.int .i64 (logN n:Nat),.int .i64 (v:Nat),.int .i64 (used:Nat),.int .i64 life,.bool false] 256
section
variable {W:World} {F:Nat→Addr} {N:List Nd} {a:Option Addr} {r:Rows} {q s d n g:Nat} {b:Int} {D:Dsk}
instance fn_sdown:FnIs Tryz.prog 143:=⟨by kernel_rfl⟩
instance fn_slargest:FnIs Tryz.prog 145:=⟨by kernel_rfl⟩
instance fn_safter:FnIs Tryz.prog 146:=⟨by kernel_rfl⟩
instance fn_sget:FnIs Tryz.prog 141:=⟨by kernel_rfl⟩
instance fn_clone:FnIs Tryz.prog 196:=⟨by kernel_rfl⟩
instance fn_scommit:FnIs Tryz.prog 97:=⟨by kernel_rfl⟩
theorem sup_ct (v:Int) (lg:Option Addr) (life:Int) (h:downB D life false=false):Ct Tryz.prog W 143 [.pointer (some ⟨s,0,none⟩)] [stP s d q n v lg life false,DiskP d D] (fun _:Unit=>.bool false) (fun _=>[stP s d q n v lg life false,DiskP d D]):=by
 have ho:D.off=false:=by unfold downB at h;cases hh:D.off <;> simp_all
 have hl:D.life=life:=by unfold downB at h;rw [ho] at h;simpa using h
 have c1:Ct Tryz.prog W 105 [.pointer (some ⟨d,0,none⟩)] [DiskP d D] (fun _:Unit=>.bool false) (fun _=>[DiskP d D]):=by rw [← ho];exact off_ct
 have c2:Ct Tryz.prog W 155 [.pointer (some ⟨d,0,none⟩)] [DiskP d D] (fun _:Unit=>.int .i64 D.life) (fun _=>[DiskP d D]):=life_ct
 refine Ct.enter Tryz.func143 rfl Tryz.ntmps143 (by simp) (fun R=>?_)
 repeat' (first|(refine zBc ?_;refine zAb (zCf rfl rfl hl) ?_)|(refine is_fo ?_;(refine FO_call (X:=Unit) xE c1 xP rfl ?_))|(refine is_ro ?_;(refine FO_call (X:=Unit) xE c1 xP rfl ?_))|(refine is_fo ?_;(refine FO_callg (X:=Unit) rfl rfl xE c1 xP rfl ?_))|(refine is_ro ?_;(refine FO_callg (X:=Unit) rfl rfl xE c1 xP rfl ?_))|(refine is_fo ?_;(refine FO_call (X:=Unit) xE c2 xP rfl ?_))|(refine is_ro ?_;(refine FO_call (X:=Unit) xE c2 xP rfl ?_))|(refine is_fo ?_;(refine FO_callg (X:=Unit) rfl rfl xE c2 xP rfl ?_))|(refine is_ro ?_;(refine FO_callg (X:=Unit) rfl rfl xE c2 xP rfl ?_))|refine xst ?_|(refine xsa ?_;intro _)|(refine xsb ?_ ?_ <;>intro _<;>try (exfalso;omega))|refine xsc ?_|(refine zAc (id:=1) plVEJ2 (by kernel_rfl) (by kernel_rfl) ?_)|refine zAm ?_ ?_|refine zAk rfl rfl rfl rfl rfl ?_ ?_|refine zAg ?_ ?_|exact Rech.nil|fail)
 all_goals (exact xdn ())
theorem slargest_ct (v:Int) (lg:Option Addr) (life:Int) (dead:Bool) (h2:n≤65536):Ct Tryz.prog W 145 [.pointer (some ⟨s,0,none⟩)] [stP s d q n v lg life dead] (fun _:Unit=>.int .i64 (largestI (logN n:Nat))) (fun _=>[stP s d q n v lg life dead]):=by
 have c1:=largest_ct (W:=W) (logN n:Nat) (by unfold logN;omega)
 refine Ct.enter Tryz.func145 rfl Tryz.ntmps145 (by simp) (fun R=>?_)
 repeat' (first|(refine zAe ?_;refine zAa xE c1 xP rfl (fun _=>?_))|refine xst ?_|(refine xsa ?_;intro _)|(refine xsb ?_ ?_ <;>intro _<;>try (exfalso;omega))|refine xsc ?_|fail)
 all_goals (exact xdn ())
theorem sget_ct (v:Int) (lg:Option Addr) (life:Int) (dead:Bool) (hT:TbOk N a r) (key:List UInt8):Ct Tryz.prog W 141 [.pointer (some ⟨s,0,none⟩),strV key] [stP s d q n v lg life dead,tbP q a b,arP N] (fun _:Unit=>.tuple #[strV ((lk r key).getD []),.bool (lk r key).isSome]) (fun _=>[stP s d q n v lg life dead,tbP q a b,arP N]):=by
 have cg:=tget_ct (W:=W) (p:=q) (b:=b) hT key
 refine Ct.enter Tryz.func141 rfl Tryz.ntmps141 (by simp) (fun R=>?_)
 repeat' (first|(refine zAe ?_;refine zAa xE cg xP rfl (fun _=>?_))|refine xst ?_|(refine xsa ?_;intro _)|(refine xsb ?_ ?_ <;>intro _<;>try (exfalso;omega))|refine xsc ?_|fail)
 all_goals (exact xdn ())
theorem tclone_ct:Ct Tryz.prog W 196 [.pointer (some ⟨q,0,none⟩)] [tbP q a b] (fun x:Nat=>.pointer (some ⟨x,0,none⟩)) (fun x=>[tbP q a b,tbP x a b]):=by
 refine Ct.enter Tryz.func196 rfl Tryz.ntmps196 (by simp) (fun R=>?_)
 repeat' (first|(refine zBd ?_;refine zBb rfl (fun g=>?_))|refine xst ?_|(refine xsa ?_;intro _)|(refine xsb ?_ ?_ <;>intro _<;>try (exfalso;omega))|refine xsc ?_|fail)
 all_goals (exact xdn g)
theorem safter_ct (v:Int) (lg:Option Addr) (life:Int) (dead:Bool) (hT:TbOk N a r) (A:SP) (oa:Option Addr) (oc:Nat) (ops:List BOp) (hL:Lv W opC 3 A oa ops) (hl:r.length+ops.length≤144115188075855872) (hs:(snapB (applyB r ops)).length≤4611686018427387904) :
 Ct Tryz.prog W 146 [.pointer (some ⟨s,0,none⟩),.slice oa ops.length oc] [A,stP s d q n v lg life dead,tbP q a b,arP N] (fun _:{M:List Nd//∀ y ∈ N,y ∈ M}=>.int .i64 ((snapB (applyB r ops)).length:Nat)) (fun M=>[A,stP s d q n v lg life dead,tbP q a b,arP M.1]):=by
 have cc:=tclone_ct (W:=W) (q:=q) (a:=a) (b:=b)
 have ca:=fun x=>bapply_ct (W:=W) (p:=x) (tb:=b) hT A oa oc ops hL hl
 have cz:=fun (x:Nat) (M:List Nd) (a':Option Addr) (b':Int) (h:TbOk M a' (applyB r ops))=>ssize_ct (W:=W) (p:=x) (b:=b') h hs
 refine Ct.enter Tryz.func146 rfl Tryz.ntmps146 (by simp) (fun R=>?_)
 repeat' (first|(refine zAe ?_;first|(refine zAa xE (cz _ _ _ _ hT') xP rfl (fun _=>?_))|(refine zAa xE (ca _) xP rfl (fun y=>?_);obtain ⟨⟨M,a',b'⟩,gM,hT'⟩:=y;dsimp only at gM hT' ⊢)|(refine zAa xE cc xP rfl (fun x=>?_)))|refine xst ?_|(refine xsa ?_;intro _)|(refine xsb ?_ ?_ <;>intro _<;>try (exfalso;omega))|refine xsc ?_|fail)
 all_goals (exact xdn ⟨M,gM⟩)
set_option maxRecDepth 100000 in
theorem scommit_ct (hE8:ErrsOn L8 W F) (e17:W.cell? ⟨13,0,none⟩=some (errV F 17)) (hN:NibAt W) (h1:64≤n) (h2:n≤65536) (v used:Nat) (hv:1≤v∧v≤1099511627776) (hD:Rest D) (hn:D.n=n)
 (hT:TbOk N a r) (A:SP) (oa:Option Addr) (oc:Nat) (ops:List BOp) (hL:Lv W opC 3 A oa ops) (ho:ops.length*40≤140737488355328) (hne:normD ops≠[]) (hl:r.length+ops.length≤144115188075855872)
 (rec_:List UInt8) (henc:encode (normD ops)=(rec_,0)) (hrec:(encAll (normD ops)).length+64≤140737488355328) (hsz:rec_.length≤1048576) (hlg:(rec_.length:Int)≤largestI (logN n:Nat)) (hfit:used+(pcsJ rec_).length≤logN n) (hroom:(snapB (applyB r (normD ops))).length≤234*layA n) :
 Ct Tryz.prog W 97 [.pointer (some ⟨s,0,none⟩),.slice oa ops.length oc] [A,stP s d q n (v:Nat) (some ⟨g,0,none⟩) D.life false,DiskP d D,tbP q a b,arP N,jouU g d n v used D.life]
  (fun _:TbQ N (applyB r (normD ops))=>.nilIface)
  (fun x=>[A,stP s d q n (v:Nat) (some ⟨g,0,none⟩) D.life false,DiskP d (apGo (logAt n:Nat) v used (pcsJ rec_) 0 D).2.flushD,tbP q x.1.2.1 x.1.2.2,arP x.1.1,jouU g d n v (used+(pcsJ rec_).length) D.life]):=by
 obtain ⟨f1,f2,f3,f4⟩:=lay_fit h1 v
 have hA:=layA_le h2
 have hdn:downB D D.life false=false:=by unfold downB;rw [hD.calm.1];simp
 obtain ⟨p1,p2,p3,p4,p5,p6,p7,p8,p9,-⟩:=ap_rest hD (at_:=logAt n) (v:=v) (used:=used) (pcsJ_le rec_) (by omega)
 have hpl:=pcsJ_length rec_
 have cdn:=sup_ct (W:=W) (s:=s) (d:=d) (q:=q) (n:=n) (v:Nat) (some ⟨g,0,none⟩) D.life hdn
 have cno:=bnormal_ct (W:=W) A oa oc ops hL ho
 have hnl:(normD ops).length≤ops.length:=nrm_len ops
 obtain ⟨os,hos⟩:∃ os,os=normD ops:=⟨_,rfl⟩
 rw [← hos] at cno hnl hne henc hrec hroom ⊢
 have hown:∀ xa xc,Lv W opC 3 (lsP opC 137 3 (.slice xa os.length xc) os) xa os:=fun xa xc=>Lv.own enc_op rfl
 have cen:=fun xa xc=>bencode_ct (W:=W) (F:=F) _ xa xc os (hown xa xc) hrec (by omega) (fun h=>by rw [henc] at h;cases h) (fun h=>by rw [henc] at h;cases h)
 rw [henc] at cen
 have clg:=slargest_ct (W:=W) (s:=s) (d:=d) (q:=q) (n:=n) (v:Nat) (some ⟨g,0,none⟩) D.life false h2
 have cro:=sroom_ct (W:=W) (s:=s) (d:=d) (q:=q) (n:=n) (v:Nat) (some ⟨g,0,none⟩) D.life false h2
 have caf:=fun xa xc=>safter_ct (W:=W) (s:=s) (d:=d) (q:=q) (n:=n) (b:=b) (v:Nat) (some ⟨g,0,none⟩) D.life false hT _ xa xc os (hown xa xc) (by omega) (by omega)
 have cfi:=fits_ct (W:=W) (p:=d) (g:=g) (logAt n:Nat) (logN n:Nat) (v:Nat) (used:Nat) D.life false rec_.length (by omega) ⟨by omega,by omega⟩ ⟨by omega,by omega⟩
 rw [show decide (0≤(rec_.length:Int)∧costI rec_.length≤(logN n:Nat)-(used:Nat))=true from decide_eq_true ⟨by omega,by omega⟩] at cfi
 have cap:=append_ct (W:=W) (p:=d) (g:=g) (D:=D) hE8 e17 hN (logAt n:Nat) (logN n:Nat) D.life v used rec_ (by omega) hdn ⟨by omega,by omega⟩ (by omega) hsz (by omega) ⟨by omega,by omega⟩ hv (by rw [hD.und];simp)
 rw [p1] at cap
 have hu2:(used:Int)+costI rec_.length=((used+(pcsJ rec_).length:Nat):Int):=by omega
 simp only [if_true,Bool.not_true,hu2] at cap
 have csy:=sync_ct (W:=W) (p:=d) (g:=g) (D:=(apGo (logAt n:Nat) v used (pcsJ rec_) 0 D).2) hE8 (logAt n:Nat) (logN n:Nat) (v:Nat) ((used+(pcsJ rec_).length:Nat):Int) D.life (by unfold downB;rw [p2,p3];simp) (by rw [p4];omega)
 rw [p6] at csy
 simp only [if_true] at csy
 obtain ⟨D1,hD1⟩:∃ D1,D1=(apGo (logAt n:Nat) v used (pcsJ rec_) 0 D).2:=⟨_,rfl⟩
 rw [← hD1] at cap csy ⊢
 obtain ⟨u2,hu2'⟩:∃ u,u=used+(pcsJ rec_).length:=⟨_,rfl⟩
 rw [← hu2'] at cap csy ⊢
 have cba:=fun (M:List Nd) (hM:∀ y ∈ N,y ∈ M) xa xc=>bapply_ct (W:=W) (p:=q) (tb:=b) (hT.mono hM) _ xa xc os (hown xa xc) (by omega)
 have q0:decide (((os.length:Nat):Int)=0)=false:=decide_eq_false (by
  have:=List.length_pos_iff.2 hne
  omega)
 have q1:decide (largestI (logN n:Nat)<(rec_.length:Nat))=false:=decide_eq_false (by omega)
 have q2:decide (((234*layA n:Nat):Int)<((snapB (applyB r os)).length:Nat))=false:=decide_eq_false (by omega)
 clear p1 p2 p3 p4 p5 p6 p7 p8 p9 hD1 hu2' hu2
 refine Ct.enter Tryz.func97 rfl Tryz.ntmps97 (by simp) (fun R=>?_)
 repeat' (first|(refine zAe ?_;first|(refine zAa xE (cba M hM _ _) xP rfl (fun y=>?_);obtain ⟨⟨M2,a2,b2⟩,gM,hT2⟩:=y;dsimp only at gM hT2 ⊢)|(refine zAa xE csy xP rfl (fun _=>?_))|(refine zAa xE cap xP rfl (fun _=>?_))|(refine zAa xE cfi xP rfl (fun _=>?_))|(refine zAa xE cro xP rfl (fun _=>?_))|(refine zAa xE (caf _ _) xP rfl (fun M=>?_);obtain ⟨M,hM⟩:=M;dsimp only at hM ⊢)|(refine zAa xE clg xP rfl (fun _=>?_))|(refine zAa xE (cen _ _) xP rfl (fun _=>?_))|(refine zAa xE cno xP rfl (fun x=>?_);obtain ⟨xa,xc⟩:=x)|(refine zAa xE cdn xP rfl (fun _=>?_)))|(refine zAx ?_;refine zAb (zAf rfl rfl q0) ?_)|(refine zAz ?_;first|refine zAb (zAj rfl rfl q2) ?_|refine zAb (zAj rfl rfl q1) ?_)|refine xst ?_|(refine xsa ?_;intro _)|(refine xsb ?_ ?_ <;>intro _<;>try (exfalso;omega))|refine xsc ?_|fail)
 all_goals (exact xdn ⟨(M2,a2,b2),fun y hy=>gM y (hM y hy),hT2⟩)
end
end Go.Proofs.YtnbgcimalpdfoaaGreatDoor
