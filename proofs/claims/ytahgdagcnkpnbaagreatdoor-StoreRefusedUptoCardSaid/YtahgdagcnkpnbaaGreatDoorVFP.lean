/-
  StR0, StR1, Open13.
-/
import Derived.Test.YtahgdagcnkpnbaaGreatDoorVET
import Derived.Test.YtahgdagcnkpnbaaGreatDoorVFI
import Derived.Test.YtahgdagcnkpnbaaGreatDoorVFJ
import Derived.Test.YtahgdagcnkpnbaaGreatDoorVFN
import Derived.Test.YtahgdagcnkpnbaaGreatDoorVBD
set_option maxHeartbeats 64000000
namespace Go.Proofs.YtahgdagcnkpnbaaGreatDoor
open Go Go.RowKit
theorem sumW_max {γ:Type} {w:γ→Nat} {c:Nat} {l:List γ} (h:∀ x ∈ l,w x≤c):sumW w l≤l.length*c:=by
 induction l with
 |nil=>simp [sumW]
 |cons y l ih=>
  rw [sumW_cons,List.length_cons,Nat.succ_mul]
  have h1:=h y (List.mem_cons_self ..)
  have h2:=ih fun x hx=>h x (List.mem_cons_of_mem _ hx)
  omega
structure OpsFit (ops:List BOp):Prop where
 len:ops.length≤1048576
 each:∀ o ∈ ops,o.key.length≤1048576∧o.val.length≤1048576
theorem opW_le (o:BOp):opW o≤o.key.length+o.val.length+21:=by
 have h1:=vu_len o.key.length
 have h2:=vu_len o.val.length
 unfold opW encOp tx
 split
 ·rw [List.length_cons,List.length_append];omega
 ·rw [List.length_cons,List.length_append,List.length_append,List.length_append];omega
theorem OpsFit.sum {ops:List BOp} (h:OpsFit ops):sumW opW ops≤2300000000000:=by
 have h1:sumW opW ops≤ops.length*2097173:=sumW_max fun o ho=>by
  have:=opW_le o
  have:=h.each o ho
  omega
 have h2:=h.len
 omega
theorem OpsFit.enc {ops:List BOp} (h:OpsFit ops):(zBz (zBa ops)).length≤100000000000000:=by
 have h1:=enc_sum (zBa ops)
 have h2:=sum_norm ops
 have h3:=h.sum
 have h4:=vu_len (zBa ops).length
 omega
theorem OpsFit.snap {ops:List BOp} (h:OpsFit ops) {r:Rows} (hr:RisR r) (hs:(zAr r).length≤1000000000000):(zAr (zAy r ops)).length≤4611686018427387904:=by
 have h1:=snap_sum (zAy r ops)
 have h2:=sum_applyB hr ops
 have h3:=h.sum
 have h4:=vu_len (zAy r ops).length
 have h5:=snap_sum r
 omega
theorem OpsFit.nil:OpsFit []:=⟨Nat.zero_le _,fun _ h=>by cases h⟩
theorem rows_room {r:Rows} {n:Nat} (h:(zAr r).length≤234*layA n) (h2:n≤65536):r.length≤10000000∧(zAr r).length≤10000000:=by
 have h1:=rows_snap r
 have h3:(zAr r).length=(vu r.length).length+(r.flatMap rowB).length:=by unfold zAr;rw [List.length_append]
 have h4:layA n≤32768:=by unfold layA;omega
 omega
end Go.Proofs.YtahgdagcnkpnbaaGreatDoor
namespace Go.Proofs.YtahgdagcnkpnbaaGreatDoor
open Go Go.RowKit
abbrev copP (x:Option Addr × Nat) (l:List BOp):SP:=lsP opC 43 3 (.slice x.1 l.length x.2) l
abbrev OL:=Option Addr × Nat × List BOp
def opsC (x:OL):List Value:=[.slice x.1 x.2.2.length x.2.1]
theorem opsC_ok:EncOk opsC 1:=⟨fun _=>rfl,fun x=>by unfold opsC;exact xO,by omega⟩
theorem Ev_sub13 {P:Program} {W:World} {n:Nat} {E:Env} {H:List SP} {t u:TypeId} {x y:Operand} {i j r:Int} (hx:Env.ev E x=some (.int .i64 i)) (hy:Env.ev E y=some (.int .i64 j)) (h:Go.RowKit.wrap64 (i-j)=r):Ev P W n E H (.binOp .sub t x y u) (.int .i64 r):=by
 subst h
 have e:IntKind.i64.wrap (i-j)=Go.RowKit.wrap64 (i-j):=by rw [IntKind.wrap_i64];unfold Go.RowKit.wrap64;rfl
 rw [← e]
 exact Ev_sub hx hy
section
variable {W:World} {F:Nat→Addr} {s d q n:Nat} {r:Rows} {N:List Nd} {a:Option Addr} {b:Int}
instance fn_copied13:FnIs Tryz.prog 40:=⟨by kernel_rfl⟩
theorem copied13_ct (A:SP) (a:Option Addr) (c:Nat) (l:List BOp) (hL:Lv W opC 3 A a l) (hl:l.length≤2000000) :
 Ct Tryz.prog W 40 [.slice a l.length c] [A] (fun x:Option Addr × Nat=>.slice x.1 l.length x.2) (fun x=>[A,copP x l]):=by
 have b1:(([]:List BOp).length+l.length)*40≤140737488355328:=by simp;omega
 have b2:([]:List BOp).length+l.length≤9223372036854775807:=by simp;omega
 refine Ct.enter Tryz.func40 rfl Tryz.ntmps40 (by simp) (fun R=>?_)
 refine KJ.lvOpen hL xS (fun b0 o0 hab=>?_)
 repeat' (first|(refine is_append ?_;refine KJ_appAll (l:=([]:List BOp)) (l2:=l) enc_op rfl rfl rfl rfl xS (Src.lv hL hab xS) b1 b2 rfl (fun a1 c1=>?_))|(refine is_bslice ?_;refine KJ_bslice0 rfl (fun g0=>?_))|refine xst ?_|(refine xsa ?_;intro _)|(refine xsb ?_ ?_ <;>intro _<;>try (exfalso;omega))|refine xsc ?_|fail)
 all_goals (obtain ⟨L2,hL2⟩:∃ L2,L2=([]++l:List BOp):=⟨_,rfl⟩)
 all_goals (simp only [List.nil_append,List.length_nil,Nat.zero_add] at *)
 all_goals (exact xdn (a1,c1))
theorem safter0_ct (v:Int) (lg:Option Addr) (life:Int) (dead:Bool) (hT:TbOk N a r) (hl:r.length≤10000000) (hs:(zAr r).length≤4611686018427387904) :
 Ct Tryz.prog W 25 [.pointer (some ⟨s,0,none⟩),.slice none 0 0] [noP,stP s d q n v lg life dead,tbP q a b,arP N] (fun _:{M:List Nd//∀ y ∈ N,y ∈ M}=>.int .i64 ((zAr r).length:Nat)) (fun M=>[noP,stP s d q n v lg life dead,tbP q a b,arP M.1]):=
 safter_ct v lg life dead hT noP none 0 [] (Lv.old enc_op ⟨none,0,rfl,fun h=>absurd rfl h⟩) (by show r.length+0≤_;omega) hs
set_option maxRecDepth 100000 in
theorem refused13_ct (hE:ErrsAt W F) (hN:NibAt W) (hg:gB≤W.heap.size) (nI:Int) (A B:SP) (a b:Option Addr) (c d:Nat) (first:List BOp) (L:List OL) (hA:Lv W opC 3 A a first) (hB:Lv W opsC 1 B b L) (hf:OpsFit first) (hLl:L.length≤1048576)
 (hx:∀ x ∈ L,OpsFit x.2.2∧LsAt W opC 3 (.slice x.1 x.2.2.length x.2.1) x.2.2) :
 Ct Tryz.prog W 7 [.int .i64 nI,.slice a first.length c,.slice b L.length d] [A,B] (fun _:Unit=>.bool true) (fun _=>[A,B]):=by
 have hE16:ErrsOn L16 W F:=hE.to16
 have hE8:ErrsOn L8 W F:=hE16.to8
 have cL:=fixed13_ct hE hN hg
 obtain ⟨B1,hB1⟩:∃ B,IntKind.u64.wrap nI=B:=⟨_,rfl⟩
 have hb1:0≤B1∧B1<18446744073709551616:=by
  have e:IntKind.u64.wrap nI=nI % 18446744073709551616:=rfl
  omega
 obtain ⟨m,hm⟩:∃ k:Nat,B1 % 30=(k:Int):=⟨(B1 % 30).toNat,by omega⟩
 have hm29:m≤29:=by omega
 have hwm:IntKind.i64.wrap ((m:Nat):Int)=((m:Nat):Int):=by
  rw [IntKind.wrap_i64]
  omega
 obtain ⟨n,hn⟩:∃ n,n=64+m:=⟨_,rfl⟩
 have hn1:64≤n:=by omega
 have hn2:n≤93:=by omega
 have cn:Ct Tryz.prog W 38 [.int .i64 (n:Nat)] [] (fun p:Nat=>.tuple #[.pointer (some ⟨p,0,none⟩),.nilIface]) (fun p=>[DiskP p (Dsk.blank n)]):=new_ct n (by omega) (by omega) hg
 have hfl:=hf.len
 have cc:=copied13_ct A a c first hA (by omega)
 have c17:=numA_ct hE hg 17 (by omega)
 have c0:=fun p D=>counts_ct (W:=W) (p:=p) (D:=D)
 obtain ⟨r0,hr0⟩:∃ r,zAy [] first=r:=⟨_,rfl⟩
 have hris0:RisR r0:=by rw [← hr0];exact applyB_ris List.Pairwise.nil _
 have hsn0:(zAr r0).length≤4611686018427387904:=by rw [← hr0];exact hf.snap List.Pairwise.nil (by show (1:Nat)≤_;omega)
 by_cases hbig:234*layA n<(zAr r0).length
 ·have cf:=fun (p:Nat) (ya:Option Addr) (yc:Nat)=>sformatF_ct (W:=W) (F:=F) (d:=p) hE16 hE8 hN hn1 (by omega) (copP (ya,yc) first) ya yc first (Lv.own (e:=43) (c:=yc) enc_op rfl) (by omega) r0 hr0 hbig hsn0
  obtain ⟨e17,h17⟩:=errV_ne (E:=F) (k:=17) (by omega)
  have hne:=errNe (F:=F) (e:=17) (by omega)
  have hw:(Dsk.blank n).writes=0∧(Dsk.blank n).flushes=0:=⟨rfl,rfl⟩
  have c0b:=fun p=>c0 p (Dsk.blank n)
  rw [hw.1,hw.2] at c0b
  refine Ct.enter Tryz.func7 rfl Tryz.ntmps7 (by simp) (fun R=>?_)
  repeat' (first|(refine zAd ?_;first|(refine zAa xE c17 xP rfl (fun _=>?_))|(refine zAa xE (c0b _) xP rfl (fun _=>?_))|(refine zAa xE (cf _ _ _) xP rfl (fun _=>?_))|(refine zAa xE cc xP rfl (fun y=>?_);obtain ⟨ya,yc⟩:=y)|(refine zAa xE cn xP rfl (fun p=>?_))|(refine zAa xE cL xP rfl (fun _=>?_)))|(refine zBe ?_;first|refine zAc (zAt rfl hwm) ?_|refine zAc (zAt rfl hB1) ?_)|(refine zBg ?_;refine zAc (zAh (r:=((n:Nat):Int)) rfl rfl (by omega) (by omega)) ?_)|(refine ek_rem ?_;refine zAc (Ev_rem_w rfl rfl (by omega) hm) ?_)|(refine zBk ?_;refine zAc (zAs (q:=true) rfl rfl rfl) ?_)|(refine zBc ?_;refine zAc (Ev_neqNil rfl hne) ?_)|refine xst ?_|(refine xsa ?_;intro _)|(refine xsb ?_ ?_ <;>intro _<;>try (exfalso;omega))|refine xsc ?_|fail)
  all_goals (exact xdn ())
 have hsn:(zAr r0).length≤234*layA n:=by omega
 have cf:=fun (p:Nat) (ya:Option Addr) (yc:Nat)=>snewF_ct (W:=W) (F:=F) (d:=p) hE16 hE8 hN hn1 (by omega) (copP (ya,yc) first) ya yc first (Lv.own (e:=43) (c:=yc) enc_op rfl) (by omega) hr0 hsn
 have co:=fun p=>snewX_ct (W:=W) (F:=F) (d:=p) hE16 hE8 hN hn1 (by omega) hris0 hsn
 refine Ct.enter Tryz.func7 rfl Tryz.ntmps7 (by simp) (fun R=>?_)
 repeat' (first|(refine zAd ?_;first|(refine zAa xE (co _) xP rfl (fun y=>?_);obtain ⟨s,⟨⟨xd,q,g,v,used,D,N,ta,tb⟩,hI0,hd,hv,hu,hD⟩⟩:=y;dsimp only at hd hv ⊢;subst hd)|(refine zAa xE (cf _ _ _) xP rfl (fun _=>?_))|(refine zAa xE cc xP rfl (fun y=>?_);obtain ⟨ya,yc⟩:=y)|(refine zAa xE cn xP rfl (fun p=>?_))|(refine zAa xE cL xP rfl (fun _=>?_)))|(refine zBe ?_;first|refine zAc (zAt rfl hwm) ?_|refine zAc (zAt rfl hB1) ?_)|(refine zBg ?_;refine zAc (zAh (r:=((n:Nat):Int)) rfl rfl (by omega) (by omega)) ?_)|(refine ek_rem ?_;refine zAc (Ev_rem_w rfl rfl (by omega) hm) ?_)|refine xst ?_|(refine xsa ?_;intro _)|(refine xsb ?_ ?_ <;>intro _<;>try (exfalso;omega))|refine xsc ?_|fail)
 clear hu hD hv
 refine zBu (fun p:{p:Nat × Rows × StH//p.1≤L.length∧RisR p.2.1∧StI n (2+p.1) p.2.1 p.2.2∧p.2.2.d=xd}=>[(7,.pointer (some ⟨xd,0,none⟩)),(11,.pointer (some ⟨s,0,none⟩)),(72,.slice b L.length d),(73,.int .i64 (L.length:Nat)),(74,.int .i64 (p.1.1:Nat))])
  (fun p=>[A,B,stP s p.1.2.2.d p.1.2.2.q n (p.1.2.2.v:Nat) (some ⟨p.1.2.2.g,0,none⟩) p.1.2.2.D.life false,DiskP p.1.2.2.d p.1.2.2.D,tbP p.1.2.2.q p.1.2.2.a p.1.2.2.b,arP p.1.2.2.N,jouU p.1.2.2.g p.1.2.2.d n p.1.2.2.v p.1.2.2.used p.1.2.2.D.life]++R) (fun p=>L.length-p.1.1) ⟨(0,r0,⟨xd,q,g,v,used,D,N,ta,tb⟩),Nat.zero_le _,hris0,hI0,rfl⟩ xB (xN) (fun ⟨(i,r,⟨zd,q,g,v,used,D,N,ta,tb⟩),hi,hr,hI,hd⟩=>?_)
 dsimp only at hi hr hI hd ⊢
 subst hd
 by_cases hlt:i<L.length
 rotate_left
 ·have ql:decide ((i:Int)<(L.length:Nat))=false:=decide_eq_false (by omega)
  repeat' (first|(refine zAp ?_;refine zAc (zAe rfl rfl ql) ?_)|refine xst ?_|(refine xsa ?_;intro _)|(refine xsb ?_ ?_ <;>intro _<;>try (exfalso;omega))|refine xsc ?_|fail)
  all_goals (exact xdn ())
 have ql:decide ((i:Int)<(L.length:Nat))=true:=decide_eq_true (by omega)
 obtain ⟨⟨oa,oc,ops⟩,ho⟩:∃ x,L[i]? = some x:=⟨_,List.getElem?_eq_getElem hlt⟩
 obtain ⟨hO,hLs⟩:=hx _ (List.mem_of_getElem? ho)
 dsimp only at hO hLs
 refine KJ.lvSome hB xS (by omega) (fun bb ob hab=>?_)
 subst hab
 have ho1:ob+Int.toNat (i:Int)*1=ob+i*1+0:=by simp
 have hv0:(opsC (oa,oc,ops))[0]? = some (.slice oa ops.length oc):=rfl
 have hT:=hI.tab
 have hroom:(zAr r).length≤234*layA n:=hI.room
 dsimp only at hT
 obtain ⟨hrl,hrs⟩:=rows_room hroom (by omega)
 have hol:=hO.len
 have hsa:=hO.snap hr (by omega)
 have cp:=copied13_ct (W:=W) noP oa oc ops (Lv.old enc_op hLs) (by omega)
 have ca:=fun (ya:Option Addr) (yc:Nat)=>safter_ct (W:=W) (s:=s) (d:=zd) (q:=q) (n:=n) (b:=tb) (v:Nat) (some ⟨g,0,none⟩) D.life false hT (copP (ya,yc) ops) ya yc ops (Lv.own (e:=43) (c:=yc) enc_op rfl) (by omega) hsa
 have cr:=fun (M:List Nd) (hM:∀ y ∈ N,y ∈ M)=>srows_ct (W:=W) (s:=s) (d:=zd) (q:=q) (n:=n) (b:=tb) (v:Nat) (some ⟨g,0,none⟩) D.life false (hT.mono hM) (by omega)
 have cv:=sver_ct (W:=W) (s:=s) (d:=zd) (q:=q) (n:=n) (v:Nat) (some ⟨g,0,none⟩) D.life false
 have cz:=fun (M:List Nd) (hM:∀ y ∈ N,y ∈ M)=>ssizeL (W:=W) (s:=s) (d:=zd) (q:=q) (n:=n) (b:=tb) (v:Nat) (some ⟨g,0,none⟩) D.life false (hT.mono hM) (by omega)
 have c00:=fun (M:List Nd) (hM:∀ y ∈ N,y ∈ M)=>safter0_ct (W:=W) (s:=s) (d:=zd) (q:=q) (n:=n) (b:=tb) (v:Nat) (some ⟨g,0,none⟩) D.life false (hT.mono hM) (by omega) (by omega)
 have cm:=sroom_ct (W:=W) (s:=s) (d:=zd) (q:=q) (n:=n) (v:Nat) (some ⟨g,0,none⟩) D.life false (by omega)
 have qn:decide (((zAr r).length:Int)≠((zAr r).length:Nat))=false:=by simp
 have qg:decide (((234*layA n:Nat):Int)<((zAr r).length:Nat))=false:=decide_eq_false (by omega)
 obtain ⟨sa,hsA⟩:∃ x,x=(zAr (zAy r ops)).length:=⟨_,rfl⟩
 rw [← hsA] at ca
 refine KJ.noP ?_
 repeat' (first|(refine at_seq_region (id:=20) ?_;refine hold ?_)|(refine zAd ?_;first|(refine zAa xE cm xP rfl (fun _=>?_))|(refine zAa xE (c00 M hM) xP rfl (fun M2=>?_);obtain ⟨M2,hM2⟩:=M2;dsimp only at hM2 ⊢)|(refine zAa xE (cz _ (fun y hy=>hM2 y (hM y hy))) xP rfl (fun _=>?_))|(refine zAa xE (cz _ hM) xP rfl (fun _=>?_))|(refine zAa xE cv xP rfl (fun _=>?_))|(refine zAa xE (cr M hM) xP rfl (fun x=>?_);obtain ⟨wa,wc⟩:=x)|(refine zAa xE (ca _ _) xP rfl (fun M=>?_);obtain ⟨M,hM⟩:=M;dsimp only at hM ⊢)|(refine zAa xE cp xP rfl (fun y=>?_);obtain ⟨ya,yc⟩:=y)|(refine zAa xE (c0 _ D) xP rfl (fun _=>?_)))|(refine zAj ?_;refine zAc (Ev_loadLvF opsC_ok hB rfl rfl xS ho1 ho hv0) ?_)|(refine zBc ?_;refine zAc (Ev_neqI_q rfl rfl qn) ?_)|(refine zAp ?_;refine zAc (zAe rfl rfl ql) ?_)|(refine zAv ?_;refine zAc (zAg rfl rfl qg) ?_)|refine xst ?_|(refine xsa ?_;intro _)|(refine xsb ?_ ?_ <;>intro _<;>try (exfalso;omega))|refine xsc ?_|fail)
 refine Hold.mk ?_
 obtain ⟨ce,hce⟩:∃ e,e=commE n r ops:=⟨_,rfl⟩
 obtain ⟨r2,hr2⟩:∃ e,e=commR n r ops:=⟨_,rfl⟩
 obtain ⟨bb2,hbb⟩:∃ e,e=commB n r ops:=⟨_,rfl⟩
 have hI2:StI n (2+i) r ⟨zd,q,g,v,used,D,M2,ta,tb⟩:=⟨hI.rdy,hI.v1,hI.vm,hI.used,hT.mono (fun y hy=>hM2 y (hM y hy)),hroom⟩
 have cx:=fun (ya:Option Addr) (yc:Nat)=>scommitX (W:=W) (F:=F) (s:=s) (n:=n) (m:=2+i) (r:=r) hE16 hE8 hN hn1 (by omega) (by omega) ⟨zd,q,g,v,used,D,M2,ta,tb⟩ hI2 (copP (ya,yc) ops) ya yc ops (Lv.own (e:=43) (c:=yc) enc_op rfl) (by omega) (by omega) hO.enc (by rw [apply_normD hr];omega)
 rw [← hce,← hr2,← hbb] at cx
 have hk37:ce≤37:=by
  have:=commE_cases n r ops
  omega
 have hr2r:RisR r2:=by rw [hr2];exact commR_ris hr ops
 have hr2m:(zAr r2).length≤234*layA n:=by rw [hr2];exact commR_room hroom
 have cN:=numA_ct hE hg ce hk37
 repeat' (first|(refine at_seq_region (id:=21) ?_;refine hold ?_)|(refine zAd ?_;first|(refine zAa xE (cx _ _) xP rfl (fun y=>?_))|(refine zAa xE cp xP rfl (fun y=>?_);obtain ⟨ya2,yc2⟩:=y))|refine xst ?_|(refine xsa ?_;intro _)|(refine xsb ?_ ?_ <;>intro _<;>try (exfalso;omega))|refine xsc ?_|fail)
 refine Hold.mk ?_
 obtain ⟨⟨yd,yq,yg,yv,yused,yD,yN,ya3,yb⟩,hJ,hgo⟩:=y
 have hyd:=hgo.d
 have hyes:=hgo.go
 have hno:=hgo.no
 have hT2:=hJ.tab
 dsimp only at hyd hT2 hyes hno ⊢
 subst hyd
 obtain ⟨hrl2,hrs2⟩:=rows_room hr2m (by omega)
 have cr2:=srows_ct (W:=W) (s:=s) (d:=yd) (q:=yq) (n:=n) (b:=yb) (yv:Nat) (some ⟨yg,0,none⟩) yD.life false hT2 (by omega)
 have cv2:=sver_ct (W:=W) (s:=s) (d:=yd) (q:=yq) (n:=n) (yv:Nat) (some ⟨yg,0,none⟩) yD.life false
 have cz2:=ssizeL (W:=W) (s:=s) (d:=yd) (q:=yq) (n:=n) (b:=yb) (yv:Nat) (some ⟨yg,0,none⟩) yD.life false hT2 (by omega)
 have cm2:=sroom_ct (W:=W) (s:=s) (d:=yd) (q:=yq) (n:=n) (yv:Nat) (some ⟨yg,0,none⟩) yD.life false (by omega)
 have hcs:=commE_cases n r ops
 rw [← hce] at hcs
 rcases hcs with h0|⟨h0,hops,hbg⟩|⟨h0,hops⟩
 ·subst h0
  have hr2e:r2=zAy r ops:=by rw [hr2];exact commR_yes hr hce.symm
  subst hr2e
  clear hr2
  rw [← hsA] at cz2
  have qn2:decide (((sa:Nat):Int)≠((sa:Nat):Int))=false:=by simp
  by_cases hz:ops=[]
  ·have hb0:bb2=false:=by rw [hbb];exact decide_eq_false fun h=>h.1 (normD_nil.2 hz)
   obtain ⟨e1,e2⟩:=hno hb0
   subst e1 e2
   have q1:decide (((ops.length:Nat):Int)=0)=true:=decide_eq_true (by rw [hz];rfl)
   have q2:decide (yD.flushes=yD.flushes)=true:=decide_eq_true rfl
   have q3:decide ((0:Int)<((ops.length:Nat):Int))=false:=decide_eq_false (by rw [hz];simp)
   have q4:decide ((((yv+1:Nat)):Int)<((yv:Nat):Int))=false:=decide_eq_false (by omega)
   repeat' (first|(refine zAd ?_;first|(refine zAa xE cz2 xP rfl (fun _=>?_))|(refine zAa xE cv2 xP rfl (fun _=>?_))|(refine zAa xE cN xP rfl (fun _=>?_))|(refine zAa xE (c0 _ yD) xP rfl (fun _=>?_)))|(refine zBg ?_;first|refine zAc (zAh (r:=((yv+1:Nat):Int)) rfl rfl (by omega) (by have:=hJ.vm;dsimp only at this;omega)) ?_|refine zAc (zAh (r:=((i+1:Nat):Int)) rfl rfl (by omega) (by omega)) ?_)|(refine zBk ?_;first|refine zAc (zAs (q:=true) rfl rfl rfl) ?_|refine zAc (zAs rfl rfl q2) ?_|refine zAc (zAs rfl rfl q1) ?_)|(refine zBc ?_;first|refine zAc (Ev_neqBw (r:=false) rfl rfl rfl) ?_|refine zAc (Ev_neqI_q rfl rfl qn2) ?_)|(refine zAv ?_;first|refine zAc (zAg rfl rfl q4) ?_|refine zAc (zAg rfl rfl q3) ?_)|refine xst ?_|(refine xsa ?_;intro _)|(refine xsb ?_ ?_ <;>intro _<;>try (exfalso;omega))|refine xsc ?_|fail)
   all_goals refine zAz ⟨(i+1,zAy r ops,⟨yd,yq,yg,yv,yused,yD,yN,ya3,yb⟩),hlt,hr2r,hJ,rfl⟩ (by show L.length-(i+1)<L.length-i;omega) xB (xN)
  ·have hb1:bb2=true:=by rw [hbb];exact decide_eq_true ⟨fun h=>hz (normD_nil.1 h),hce.symm⟩
   obtain ⟨k,hk,e1,e2⟩:=hyes hb1
   have hpos:0<ops.length:=List.length_pos_iff.2 hz
   have q1:decide (((ops.length:Nat):Int)=0)=false:=decide_eq_false (by omega)
   have q2:decide (yD.flushes=D.flushes)=false:=decide_eq_false (by rw [e2];exact fl_ne _ hk)
   have q3:decide ((0:Int)<((ops.length:Nat):Int))=true:=decide_eq_true (by omega)
   have w1:Go.RowKit.wrap64 (yD.flushes-D.flushes)=1+2*((k:Nat):Int):=by rw [e2];exact fl_sub _ hk
   have q4:decide (1+2*((k:Nat):Int)≠1+2*((k:Nat):Int))=false:=by simp
   have q5:decide ((((v+1:Nat)):Int)<((yv:Nat):Int))=false:=decide_eq_false (by omega)
   have hvm:=hI.vm
   dsimp only at hvm
   repeat' (first|(refine zAd ?_;first|(refine zAa xE cz2 xP rfl (fun _=>?_))|(refine zAa xE cv2 xP rfl (fun _=>?_))|(refine zAa xE cN xP rfl (fun _=>?_))|(refine zAa xE (c0 _ yD) xP rfl (fun _=>?_)))|(refine zBg ?_;first|refine zAc (zAh (r:=((v+1:Nat):Int)) rfl rfl (by omega) (by omega)) ?_|refine zAc (zAh (r:=((i+1:Nat):Int)) rfl rfl (by omega) (by omega)) ?_|refine zAc (zAh (r:=1+2*((k:Nat):Int)) rfl rfl rfl (by omega)) ?_)|(refine ek_sub ?_;first|refine zAc (Ev_subI_v (r:=((k:Nat):Int)) rfl rfl (by omega) (by omega)) ?_|refine zAc (Ev_sub13 rfl rfl w1) ?_)|(refine ek_mul ?_;refine zAc (Ev_mulI_v (r:=2*((k:Nat):Int)) rfl rfl rfl (by omega)) ?_)|(refine zBk ?_;first|refine zAc (zAs (q:=true) rfl rfl rfl) ?_|refine zAc (zAs rfl rfl q2) ?_|refine zAc (zAs rfl rfl q1) ?_)|(refine zBc ?_;first|refine zAc (Ev_neqBw (r:=false) rfl rfl rfl) ?_|refine zAc (Ev_neqI_q rfl rfl q4) ?_|refine zAc (Ev_neqI_q rfl rfl qn2) ?_)|(refine zAv ?_;first|refine zAc (zAg rfl rfl q5) ?_|refine zAc (zAg rfl rfl q3) ?_)|refine xst ?_|(refine xsa ?_;intro _)|(refine xsb ?_ ?_ <;>intro _<;>try (exfalso;omega))|refine xsc ?_|fail)
   all_goals refine zAz ⟨(i+1,zAy r ops,⟨yd,yq,yg,yv,yused,yD,yN,ya3,yb⟩),hlt,hr2r,hJ,rfl⟩ (by show L.length-(i+1)<L.length-i;omega) xB (xN)
 ·subst h0
  have hr2e:r2=r:=by rw [hr2];exact commR_no (by rw [← hce];omega)
  subst hr2e
  clear hr2
  have hb0:bb2=false:=by rw [hbb];exact decide_eq_false fun h=>by rw [← hce] at h;exact absurd h.2 (by omega)
  obtain ⟨e1,e2⟩:=hno hb0
  subst e1 e2
  have q2:decide (yD.flushes≠yD.flushes)=false:=by simp
  have q3:decide (yD.writes≠yD.writes)=false:=by simp
  have q4:decide (((yv:Nat):Int)≠((yv:Nat):Int))=false:=by simp
  have cs:=fun (xa:Option Addr) (xc:Nat)=>srows13_ct (W:=W) (ropP (xa,xc) r2) (ropP (wa,wc) r2) xa wa xc wc r2 (Lv.own (e:=51) (c:=xc) rC_ok rfl) (Lv.own (e:=51) (c:=wc) rC_ok rfl) (by omega)
  rw [apply_normD hr,← hsA] at hbg
  have q5:decide (((sa:Nat):Int)≤((234*layA n:Nat):Int))=false:=decide_eq_false (by omega)
  repeat' (first|(refine zAd ?_;first|(refine zAa xE (cs _ _) xP rfl (fun _=>?_))|(refine zAa xE cr2 xP rfl (fun x=>?_);obtain ⟨xa,xc⟩:=x)|(refine zAa xE cm2 xP rfl (fun _=>?_))|(refine zAa xE cv2 xP rfl (fun _=>?_))|(refine zAa xE cN xP rfl (fun _=>?_))|(refine zAa xE (c0 _ yD) xP rfl (fun _=>?_)))|(refine zBg ?_;refine zAc (zAh (r:=((i+1:Nat):Int)) rfl rfl (by omega) (by omega)) ?_)|(refine zBk ?_;first|refine zAc (zAs (q:=true) rfl rfl rfl) ?_|refine zAc (zAs (q:=false) rfl rfl rfl) ?_)|(refine zBc ?_;first|refine zAc (Ev_neqI_q rfl rfl q4) ?_|refine zAc (Ev_neqI_q rfl rfl q3) ?_|refine zAc (Ev_neqI_q rfl rfl q2) ?_)|(refine ek_leq ?_;refine zAc (Ev_leqI_q rfl rfl q5) ?_)|refine xst ?_|(refine xsa ?_;intro _)|(refine xsb ?_ ?_ <;>intro _<;>try (exfalso;omega))|refine xsc ?_|fail)
  all_goals refine zAz ⟨(i+1,r2,⟨yd,yq,yg,yv,yused,yD,yN,ya3,yb⟩),hlt,hr2r,hJ,rfl⟩ (by show L.length-(i+1)<L.length-i;omega) xB (xN)
 ·subst h0
  have hr2e:r2=r:=by rw [hr2];exact commR_no (by rw [← hce];omega)
  subst hr2e
  clear hr2
  have hb0:bb2=false:=by rw [hbb];exact decide_eq_false fun h=>by rw [← hce] at h;exact absurd h.2 (by omega)
  obtain ⟨e1,e2⟩:=hno hb0
  subst e1 e2
  have q2:decide (yD.flushes≠yD.flushes)=false:=by simp
  have q3:decide (yD.writes≠yD.writes)=false:=by simp
  have q4:decide (((yv:Nat):Int)≠((yv:Nat):Int))=false:=by simp
  have cs:=fun (xa:Option Addr) (xc:Nat)=>srows13_ct (W:=W) (ropP (xa,xc) r2) (ropP (wa,wc) r2) xa wa xc wc r2 (Lv.own (e:=51) (c:=xc) rC_ok rfl) (Lv.own (e:=51) (c:=wc) rC_ok rfl) (by omega)
  repeat' (first|(refine zAd ?_;first|(refine zAa xE (cs _ _) xP rfl (fun _=>?_))|(refine zAa xE cr2 xP rfl (fun x=>?_);obtain ⟨xa,xc⟩:=x)|(refine zAa xE cm2 xP rfl (fun _=>?_))|(refine zAa xE cv2 xP rfl (fun _=>?_))|(refine zAa xE cN xP rfl (fun _=>?_))|(refine zAa xE (c0 _ yD) xP rfl (fun _=>?_)))|(refine zBg ?_;refine zAc (zAh (r:=((i+1:Nat):Int)) rfl rfl (by omega) (by omega)) ?_)|(refine zBk ?_;first|refine zAc (zAs (q:=true) rfl rfl rfl) ?_|refine zAc (zAs (q:=false) rfl rfl rfl) ?_)|(refine zBc ?_;first|refine zAc (Ev_neqI_q rfl rfl q4) ?_|refine zAc (Ev_neqI_q rfl rfl q3) ?_|refine zAc (Ev_neqI_q rfl rfl q2) ?_)|refine xst ?_|(refine xsa ?_;intro _)|(refine xsb ?_ ?_ <;>intro _<;>try (exfalso;omega))|refine xsc ?_|fail)
  all_goals refine zAz ⟨(i+1,r2,⟨yd,yq,yg,yv,yused,yD,yN,ya3,yb⟩),hlt,hr2r,hJ,rfl⟩ (by show L.length-(i+1)<L.length-i;omega) xB (xN)
theorem refused13_law (hE:ErrsAt W F) (hN:NibAt W) (hg:gB≤W.heap.size) (nI:Int) (a b:Option Addr) (c d:Nat) (first:List BOp) (L:List OL) (hA:Lv W opC 3 noP a first) (hB:Lv W opsC 1 noP b L) (hf:OpsFit first) (hLl:L.length≤1048576)
 (hx:∀ x ∈ L,OpsFit x.2.2∧LsAt W opC 3 (.slice x.1 x.2.2.length x.2.1) x.2.2) :
 Ct Tryz.prog W 7 [.int .i64 nI,.slice a first.length c,.slice b L.length d] [] (fun _:Unit=>.bool true) (fun _=>[]):=
 Ct.noP14 (refused13_ct hE hN hg nI noP noP a b c d first L hA hB hf hLl hx)
end
end Go.Proofs.YtahgdagcnkpnbaaGreatDoor
namespace Go.Proofs.YtahgdagcnkpnbaaGreatDoor
open Go Go.RowKit Go.ChangeShapes Go.WideShapes Go.Deep
theorem cellsBool13:Tryz.prog.cellsOf 4=1:=by kernel_rfl
theorem cellsOp13:Tryz.prog.cellsOf 43=3:=by kernel_rfl
theorem cellsOps13:Tryz.prog.cellsOf 37=1:=by kernel_rfl
instance:Inhabited BOp:=⟨⟨false,[],[]⟩⟩
section
variable {H:Type} {enc:TypeId × Value→H} {W:World} {base:Nat} {held:Bool}
set_option maxRecDepth 100000 in
theorem ops13_cells {n:Nat} {cs:List Value} {x:DataW H × List MemPlace} (h:DataW.trod enc Tryz.prog W base (fun _=>true) held n 37 cs=some x) :
 ∃ (l:List BOp) (ad:Option Addr) (c:Nat),cs=[.slice ad l.length c]∧LsAt W opC 3 (.slice ad l.length c) l∧l.length≤Rows.uptoBulk x.1∧l.length≤c∧
  ∀ o ∈ l,o.key.length≤Rows.uptoBulk x.1∧o.val.length≤Rows.uptoBulk x.1:=by
 obtain ⟨l,ad,c,e,hb,hlc,-,-,hx,hz⟩:=elems_of (α:=BOp) Tryz.underlying37 cellsOp13 (by omega) (fun s cs D=>cs=opC s∧s.key.length≤Rows.uptoBulk D∧s.val.length≤Rows.uptoBulk D) (fun n cs x hx=>by
  obtain ⟨xs,m,_,rfl,hl,hxl,hf⟩:=DataW.trod_struct Tryz.underlying43 hx
  rw [cellsOp13] at hl
  match cs,hl with
  |[c0,c1,c2],_=>
   match xs,hxl with
   |[y0,y1,y2],_=>
    have h0:DataW.trod enc Tryz.prog W base (fun _=>true) held m 4 [c0]=some y0:=field_of hf 0 rfl cellsBool13
    have h1:DataW.trod enc Tryz.prog W base (fun _=>true) held m 9 [c1]=some y1:=field_of hf 1 rfl cellsStr14
    have h2:DataW.trod enc Tryz.prog W base (fun _=>true) held m 9 [c2]=some y2:=field_of hf 2 rfl cellsStr14
    obtain ⟨b0,e0,-⟩:=DataW.trod_bool Tryz.underlying4 h0
    obtain ⟨s1,e1,f1⟩:=DataW.trod_string Tryz.underlying9 h1
    obtain ⟨s2,e2,f2⟩:=DataW.trod_string Tryz.underlying9 h2
    simp only [List.cons.injEq,and_true] at e0 e1 e2
    subst e0;subst e1;subst e2
    have pl:=agg_parts (H:=H) [y0.1,y1.1,y2.1]
    have m1:=part_le (H:=H) (d:=y1.1) (l:=[y0.1,y1.1,y2.1]) (by simp)
    have m2:=part_le (H:=H) (d:=y2.1) (l:=[y0.1,y1.1,y2.1]) (by simp)
    have n1:s1.data.toList.length≤Rows.uptoBulk y1.1:=by rw [f1.1,string_eq];omega
    have n2:s2.data.toList.length≤Rows.uptoBulk y2.1:=by rw [f2.1,string_eq];omega
    exact ⟨⟨b0,s1.data.toList,s2.data.toList⟩,rfl,Nat.le_trans n1 (Nat.le_trans m1 pl),Nat.le_trans n2 (Nat.le_trans m2 pl)⟩) h
 refine ⟨l,ad,c,e,⟨ad,c,rfl,fun hne=>?_⟩,hb,hlc,fun o ho=>?_⟩
 ·obtain ⟨b,o,h1,h2,h3⟩:=hx hne
  refine ⟨b,o,h1,h2,fun i x hx=>?_⟩
  obtain ⟨cs,D,⟨rfl,_,_⟩,_,_,h4⟩:=h3 i x hx
  exact h4
 ·obtain ⟨i,hi,he⟩:=List.mem_iff_getElem.1 ho
  obtain ⟨b,o',h1,h2,h3⟩:=hx (by intro e;rw [e] at ho;cases ho)
  obtain ⟨cs,D,⟨_,k1,k2⟩,k3,_,_⟩:=h3 i o (by rw [List.getElem?_eq_getElem hi,he])
  exact ⟨Nat.le_trans k1 k3,Nat.le_trans k2 k3⟩
set_option maxRecDepth 100000 in
theorem ops13_of {r:Reach} {b0:Nat} {v:Value} {d:DataW H} {p:List MemPlace} (hv:Value.okWide Tryz.prog W r b0 37 v) (h:DataW.Trod enc Tryz.prog W base (fun _=>true) held 37 v d p) (hd:Rows.uptoBulk d≤1048576) :
 ∃ (l:List BOp) (ad:Option Addr) (c:Nat),v=.slice ad l.length c∧LsAt W opC 3 (.slice ad l.length c) l∧l.length≤c∧OpsFit l:=by
 obtain ⟨n,hf⟩:=param_slice Tryz.underlying37 hv h
 obtain ⟨l,ad,c,e,h1,h2,h3,h4⟩:=ops13_cells hf
 simp only [List.cons.injEq,and_true] at e
 exact ⟨l,ad,c,e,h1,h3,Nat.le_trans h2 hd,fun o ho=>⟨Nat.le_trans (h4 o ho).1 hd,Nat.le_trans (h4 o ho).2 hd⟩⟩
set_option maxRecDepth 100000 in
theorem opss_of {r:Reach} {b0:Nat} {v:Value} {d:DataW H} {p:List MemPlace} (hv:Value.okWide Tryz.prog W r b0 73 v) (h:DataW.Trod enc Tryz.prog W base (fun _=>true) held 73 v d p) (hd:Rows.uptoBulk d≤1048576) :
 ∃ (ls:List OL) (ad:Option Addr) (c:Nat),v=.slice ad ls.length c∧LsAt W opsC 1 (.slice ad ls.length c) ls∧ls.length≤1048576∧
  ∀ x ∈ ls,OpsFit x.2.2∧LsAt W opC 3 (.slice x.1 x.2.2.length x.2.1) x.2.2:=by
 obtain ⟨n,hf⟩:=param_slice Tryz.underlying73 hv h
 obtain ⟨l,ad,c,e,hb,hlc,-,-,hx,hz⟩:=elems_of (α:=OL) Tryz.underlying73 cellsOps13 (by omega) (fun s cs D=>cs=opsC s∧LsAt W opC 3 (.slice s.1 s.2.2.length s.2.1) s.2.2∧(Rows.uptoBulk D≤1048576→OpsFit s.2.2)) (fun n cs x hx=>by
  obtain ⟨l,ad,c,e,h1,h2,-,h4⟩:=ops13_cells hx
  exact ⟨(ad,c,l),e,h1,fun hd=>⟨Nat.le_trans h2 hd,fun o ho=>⟨Nat.le_trans (h4 o ho).1 hd,Nat.le_trans (h4 o ho).2 hd⟩⟩⟩) hf
 simp only [List.cons.injEq,and_true] at e
 refine ⟨l,ad,c,e,⟨ad,c,rfl,fun hne=>?_⟩,Nat.le_trans hb hd,fun o ho=>?_⟩
 ·obtain ⟨b,o,h1,h2,h3⟩:=hx hne
  refine ⟨b,o,h1,h2,fun i x hx=>?_⟩
  obtain ⟨cs,D,⟨rfl,_⟩,_,_,h4⟩:=h3 i x hx
  rw [Nat.one_mul] at h4
  rw [Nat.one_mul]
  exact h4
 ·obtain ⟨i,hi,he⟩:=List.mem_iff_getElem.1 ho
  obtain ⟨b,o',h1,h2,h3⟩:=hx (by intro e;rw [e] at ho;cases ho)
  obtain ⟨cs,D,⟨_,k1,k2⟩,k3,_,_⟩:=h3 i o (by rw [List.getElem?_eq_getElem hi,he])
  exact ⟨k2 (Nat.le_trans k3 hd),k1⟩
end
end Go.Proofs.YtahgdagcnkpnbaaGreatDoor
