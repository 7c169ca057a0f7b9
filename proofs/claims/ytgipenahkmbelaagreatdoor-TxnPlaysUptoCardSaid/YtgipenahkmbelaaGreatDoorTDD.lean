/-
  TbW3, TbW4.
-/
import Derived.Test.YtgipenahkmbelaaGreatDoorTDB
set_option maxHeartbeats 64000000
namespace Go.Proofs.YtgipenahkmbelaaGreatDoor
open Go Go.RowKit
abbrev plTDD0:Pl:=(.op 0 (.op 1 (.op 2 (.op 3 (.op 4 (.op 5 (.op 7 (.op 8 (.op 9 (.op 10 (.op 11 (.op 12 (.op 13 (.op 14 (.op 15 (.op 16 (.op 17 (.op 18 (.ef 6 [18,17,16,15,14,13,12,11,10,9,8,7] (.ef 19 [] (.op 20 .nil)))))))))))))))))))))
abbrev plTDD1:Pl:=(.op 0 (.op 1 (.op 2 (.op 3 (.op 4 (.op 5 (.op 6 (.op 7 (.op 8 (.op 9 (.op 10 (.op 11 (.op 12 (.op 13 (.op 14 (.op 15 (.op 16 (.op 17 (.ef 18 [11,10,9,8,7,6,5,4,3,2,1,0] (.ef 19 [] (.op 20 .nil)))))))))))))))))))))
abbrev plTDD2:Pl:=(.op 0 (.op 1 (.op 2 (.op 3 (.op 4 (.op 5 (.op 6 (.op 7 (.op 8 (.op 9 (.ef 10 [] (.op 11 .nil))))))))))))
abbrev plTDD3:Pl:=(.op 0 (.op 1 (.op 2 (.op 3 (.op 4 (.op 6 (.op 7 (.op 8 (.op 9 (.op 10 (.op 11 (.op 12 (.op 13 (.op 14 (.op 15 (.op 16 (.op 17 (.ef 5 [17,16,15,14,13,12,11,10,9,8,7,6] (.ef 18 [] (.op 19 .nil))))))))))))))))))))
abbrev plTDD4:Pl:=(.op 0 (.op 1 (.op 2 (.op 3 (.op 4 (.op 5 (.op 6 (.op 7 (.op 8 (.op 9 (.op 10 (.op 11 (.op 12 (.op 13 (.op 14 (.op 15 (.op 16 (.ef 17 [11,10,9,8,7,6,5,4,3,2,1,0] (.ef 18 [] (.op 19 .nil))))))))))))))))))))
abbrev plTDD5:Pl:=(.op 0 (.op 1 (.op 2 (.op 3 (.op 4 (.op 5 (.op 6 (.op 7 (.op 8 (.op 9 (.op 10 (.op 11 (.op 12 (.op 13 (.op 14 (.op 15 (.op 16 (.op 17 (.op 18 (.op 19 (.ef 20 [11,10,9,8,7,6,5,4,3,2,1,0] (.ef 21 [] (.op 22 .nil)))))))))))))))))))))))
def Tr.sz:Tr→Nat
 |.nil=>0
 |.node l _ _ r _ _=>l.sz+r.sz+1
theorem insB_len {γ:Type} {f:γ→List UInt8} (l:List γ) (x:γ):(insB f l x).length=l.length+1:=by
 have:=atB_le (f:=f) l (f x)
 rw [insB_eq]
 simp only [List.length_append,List.length_take,List.length_drop,List.length_singleton]
 omega
theorem putR_len (r:Rows) (k v:List UInt8):(putR r k v).length≤r.length+1:=by
 unfold putR
 split
 ·rw [List.length_map];omega
 ·rw [insB_len];exact Nat.le_refl _
theorem put_cnt {t:Tr} (h:t.Ok) (hr:RisR t.rows) (k v:List UInt8):(t.put k v).cnt≤t.cnt+1:=by
 obtain ⟨o,e,-,-⟩:=Tr.put_ok h hr k v
 rw [Tr.cnt_rows o,e,Tr.cnt_rows h]
 exact putR_len _ _ _
theorem remove_cnt {t:Tr} (h:t.Ok) (hr:RisR t.rows) (k:List UInt8) (hk:(lk t.rows k).isSome=true):(t.remove k).cnt≤t.cnt:=by
 obtain ⟨o,e,-,-⟩:=Tr.remove_ok h hr k hk
 rw [Tr.cnt_rows o,e,Tr.cnt_rows h]
 exact List.length_filter_le _ _
theorem cmp_l {a c:List UInt8} (h:Op.bytesLess a c=true):cmpI a c=-1:=by unfold cmpI;rw [if_pos h]
theorem cmp_g {a c:List UInt8} (h:Op.bytesLess a c=false) (h2:Op.bytesLess c a=true):cmpI a c=1:=by unfold cmpI;rw [if_neg (by rw [h];decide),if_pos h2]
theorem cmp_e {a c:List UInt8} (h:Op.bytesLess a c=false) (h2:Op.bytesLess c a=false):cmpI a c=0:=by unfold cmpI;rw [if_neg (by rw [h];decide),if_neg (by rw [h2];decide)]
theorem gl_of {l r:Tr} {k v x:List UInt8} {h s:Nat} (c:Op.bytesLess x k=true):(Tr.node l k v r h s).get x=l.get x:=if_pos c
theorem gr_of {l r:Tr} {k v x:List UInt8} {h s:Nat} (c:Op.bytesLess x k=false) (c2:Op.bytesLess k x=true):(Tr.node l k v r h s).get x=r.get x:=(if_neg (by rw [c];decide)).trans (if_pos c2)
theorem ge_of {l r:Tr} {k v x:List UInt8} {h s:Nat} (c:Op.bytesLess x k=false) (c2:Op.bytesLess k x=false):(Tr.node l k v r h s).get x=some v:=(if_neg (by rw [c];decide)).trans (if_neg (by rw [c2];decide))
section
variable {W:World} {N:List Nd}
theorem nget_ct {a:Option Addr} {t:Tr} (hT:TrAt N a t) (x:List UInt8) :
 Ct Tryz.prog W 72 [.pointer a,strV x] [arP N] (fun _:Unit=>.tuple #[strV ((t.get x).getD []),.bool (t.get x).isSome]) (fun _=>[arP N]):=by
 refine Ct.enter Tryz.func72 rfl Tryz.ntmps72 (by simp) (fun R=>?_)
 repeat' (first|refine xst ?_|(refine xsa ?_;intro _)|(refine xsb ?_ ?_ <;>intro _<;>try (exfalso;omega))|refine xsc ?_|fail)
 refine zBv (fun i:{i:Option Addr × Tr//TrAt N i.1 i.2∧i.2.get x=t.get x}=>[(0,.pointer i.1.1),(1,strV x)])
  (fun _=>[arP N]++R) (fun i=>i.1.2.sz) ⟨(a,t),hT,rfl⟩ xB (xN) (fun ⟨(b,u),hb,hu⟩=>?_)
 dsimp only at hb hu ⊢
 cases u with
 |nil=>
  cases hb
  repeat' (first|refine xst ?_|(refine xsa ?_;intro _)|(refine xsb ?_ ?_ <;>intro _<;>try (exfalso;omega))|refine xsc ?_|fail)
  all_goals exact xdn () (hc:=by rw [← hu];rfl)
 |node yl yk yv yr yh ys=>
  obtain ⟨b,al,ar,rfl,hm,hal,har⟩:=hb
  have cc:=compare_ct (W:=W) x yk
  rcases cmpV x yk with ⟨h1,h2⟩|⟨h1,h2⟩|⟨h1,h2⟩
  ·rw [cmp_l h1] at cc
   rw [gl_of h1] at hu
   have q1:decide ((-1:Int)<0)=true:=rfl
   repeat' (first|(refine zAd ?_;refine zAc xE cc xP rfl (fun _=>?_))|(refine zAm ?_;refine zAb (zAx (nd:=⟨b,yk,yv,al,ar,yh,ys⟩) rfl xS hm rfl) ?_)|(refine zAq ?_;refine zAb (zAe rfl rfl q1) ?_)|refine xst ?_|(refine xsa ?_;intro _)|(refine xsb ?_ ?_ <;>intro _<;>try (exfalso;omega))|refine xsc ?_|fail)
   all_goals refine zAv ⟨(al,yl),hal,hu⟩ (by show yl.sz<yl.sz+yr.sz+1;omega) xB (xN)
  ·rw [cmp_g h1 h2] at cc
   rw [gr_of h1 h2] at hu
   have q1:decide ((1:Int)<0)=false:=rfl
   have q2:decide ((0:Int)<1)=true:=rfl
   repeat' (first|(refine zAd ?_;refine zAc xE cc xP rfl (fun _=>?_))|(refine zAm ?_;refine zAb (zAx (nd:=⟨b,yk,yv,al,ar,yh,ys⟩) rfl xS hm rfl) ?_)|(refine zAq ?_;refine zAb (zAe rfl rfl q1) ?_)|(refine zBf ?_;refine zAb (zAk rfl rfl q2) ?_)|refine xst ?_|(refine xsa ?_;intro _)|(refine xsb ?_ ?_ <;>intro _<;>try (exfalso;omega))|refine xsc ?_|fail)
   all_goals refine zAv ⟨(ar,yr),har,hu⟩ (by show yr.sz<yl.sz+yr.sz+1;omega) xB (xN)
  ·rw [cmp_e h1 h2] at cc
   rw [ge_of h1 h2] at hu
   have q1:decide ((0:Int)<0)=false:=rfl
   repeat' (first|(refine zAd ?_;refine zAc xE cc xP rfl (fun _=>?_))|(refine zAm ?_;refine zAb (zAx (nd:=⟨b,yk,yv,al,ar,yh,ys⟩) rfl xS hm rfl) ?_)|(refine zAq ?_;refine zAb (zAe rfl rfl q1) ?_)|(refine zBf ?_;refine zAb (zAk rfl rfl q1) ?_)|refine xst ?_|(refine xsa ?_;intro _)|(refine xsb ?_ ?_ <;>intro _<;>try (exfalso;omega))|refine xsc ?_|fail)
   all_goals exact xdn () (hc:=by rw [← hu];rfl)
theorem nput_ct (x y:List UInt8):∀ (t:Tr) {N:List Nd} {a:Option Addr},TrAt N a t→t.Ok→RisR t.rows→t.cnt≤288230376151711744→
 Ct Tryz.prog W 73 [.pointer a,strV x,strV y] [arP N] (fun z:Grew N (t.put x y)=>.pointer z.1.2) (fun z=>[arP z.1.1]):=by
 intro t
 induction t with
 |nil=>
  intro N a hT ho hr hc
  cases hT
  have cj:=join_ct (W:=W) (N:=N) (a:=none) (c:=none) (l:=.nil) (r:=.nil) (k:=x) (v:=y) rfl rfl (by decide) (by decide) (by decide) (by decide)
  refine Ct.enter Tryz.func73 rfl Tryz.ntmps73 (by simp) (fun R=>?_)
  repeat' (first|(refine zAd ?_;refine zAc xE (cj) xP rfl (fun x=>?_);obtain ⟨⟨N1,p1⟩,g1,t1⟩:=x;dsimp only at g1 t1 ⊢)|refine xst ?_|(refine xsa ?_;intro _)|(refine xsb ?_ ?_ <;>intro _<;>try (exfalso;omega))|refine xsc ?_|(refine zAa (id:=5) plTDD0 (by kernel_rfl) (by kernel_rfl) ?_)|(refine zAa (id:=7) plTDD1 (by kernel_rfl) (by kernel_rfl) ?_)|(refine zAa (id:=8) plTDD2 (by kernel_rfl) (by kernel_rfl) ?_)|refine zAp ?_ ?_|refine zAn rfl rfl rfl rfl rfl ?_ ?_|refine zAg ?_ ?_|exact Rech.nil|fail)
  all_goals (exact xdn ⟨(N1,p1),g1,t1⟩)
 |node yl yk yv yr yh ys ihl ihr=>
  intro N a hT ho hr hc
  obtain ⟨b,al,ar,rfl,hm,hal,har⟩:=hT
  obtain ⟨r1,r2,r3,r4⟩:=ris_mid.1 (show RisR (yl.rows++(yk,yv)::yr.rows) from hr)
  obtain ⟨k1,k2,k3,k4,k5,k6⟩:=Tr.child ho
  have hc:ys≤288230376151711744:=hc
  have u1:=Tr.tall_cnt k1
  have u2:=Tr.tall_cnt k2
  have cc:=compare_ct (W:=W) x yk
  rcases cmpV x yk with ⟨h1,h2⟩|⟨h1,h2⟩|⟨h1,h2⟩
  ·rw [cmp_l h1] at cc
   have q1:decide ((-1:Int)<0)=true:=rfl
   have cp:=ihl hal k1 r1 (by omega)
   have he:(Tr.node yl yk yv yr yh ys).put x y=Tr.level (yl.put x y) yk yv yr:=if_pos h1
   obtain ⟨pok,-⟩:=Tr.put_ok k1 r1 x y
   have pc:=put_cnt k1 r1 x y
   rw [he]
   refine Ct.enter Tryz.func73 rfl Tryz.ntmps73 (by simp) (fun R=>?_)
   repeat' (first|(refine zAd ?_;first|(refine zAc xE (cp) xP rfl (fun x=>?_);obtain ⟨⟨N1,p1⟩,g1,t1⟩:=x;dsimp only at g1 t1 ⊢;refine hold ?_)|(refine zAc xE cc xP rfl (fun _=>?_)))|(refine zAm ?_;refine zAb (zAx (nd:=⟨b,yk,yv,al,ar,yh,ys⟩) rfl xS (hm) rfl) ?_)|(refine zAq ?_;refine zAb (zAe rfl rfl q1) ?_)|refine xst ?_|(refine xsa ?_;intro _)|(refine xsb ?_ ?_ <;>intro _<;>try (exfalso;omega))|refine xsc ?_|(refine zAa (id:=5) plTDD0 (by kernel_rfl) (by kernel_rfl) ?_)|(refine zAa (id:=7) plTDD1 (by kernel_rfl) (by kernel_rfl) ?_)|(refine zAa (id:=8) plTDD2 (by kernel_rfl) (by kernel_rfl) ?_)|refine zAp ?_ ?_|refine zAn rfl rfl rfl rfl rfl ?_ ?_|refine zAg ?_ ?_|exact Rech.nil|fail)
   refine Hold.mk ?_
   repeat' (first|(refine zAd ?_;refine zAc xE (level_ct (W:=W) t1 (har.mono g1) pok k2 (by omega) (by omega)) xP rfl (fun x=>?_);obtain ⟨⟨N2,p2⟩,g2,t2⟩:=x;dsimp only at g2 t2 ⊢)|(refine zAm ?_;refine zAb (zAx (nd:=⟨b,yk,yv,al,ar,yh,ys⟩) rfl xS (g1 _ hm) rfl) ?_)|refine xst ?_|(refine xsa ?_;intro _)|(refine xsb ?_ ?_ <;>intro _<;>try (exfalso;omega))|refine xsc ?_|(refine zAa (id:=5) plTDD0 (by kernel_rfl) (by kernel_rfl) ?_)|(refine zAa (id:=7) plTDD1 (by kernel_rfl) (by kernel_rfl) ?_)|(refine zAa (id:=8) plTDD2 (by kernel_rfl) (by kernel_rfl) ?_)|refine zAp ?_ ?_|refine zAn rfl rfl rfl rfl rfl ?_ ?_|refine zAg ?_ ?_|exact Rech.nil|fail)
   all_goals (exact xdn ⟨(N2,p2),fun y hy=>g2 y (g1 y hy),t2⟩)
  ·rw [cmp_g h1 h2] at cc
   have q1:decide ((1:Int)<0)=false:=rfl
   have q2:decide ((0:Int)<1)=true:=rfl
   have cp:=ihr har k2 r2 (by omega)
   have he:(Tr.node yl yk yv yr yh ys).put x y=Tr.level yl yk yv (yr.put x y):=(if_neg (by rw [h1];decide)).trans (if_pos h2)
   obtain ⟨pok,-⟩:=Tr.put_ok k2 r2 x y
   have pc:=put_cnt k2 r2 x y
   rw [he]
   refine Ct.enter Tryz.func73 rfl Tryz.ntmps73 (by simp) (fun R=>?_)
   repeat' (first|(refine zAd ?_;first|(refine zAc xE (cp) xP rfl (fun x=>?_);obtain ⟨⟨N1,p1⟩,g1,t1⟩:=x;dsimp only at g1 t1 ⊢;refine hold ?_)|(refine zAc xE cc xP rfl (fun _=>?_)))|(refine zAm ?_;refine zAb (zAx (nd:=⟨b,yk,yv,al,ar,yh,ys⟩) rfl xS (hm) rfl) ?_)|(refine zAq ?_;refine zAb (zAe rfl rfl q1) ?_)|(refine zBf ?_;refine zAb (zAk rfl rfl q2) ?_)|refine xst ?_|(refine xsa ?_;intro _)|(refine xsb ?_ ?_ <;>intro _<;>try (exfalso;omega))|refine xsc ?_|(refine zAa (id:=5) plTDD0 (by kernel_rfl) (by kernel_rfl) ?_)|(refine zAa (id:=7) plTDD1 (by kernel_rfl) (by kernel_rfl) ?_)|(refine zAa (id:=8) plTDD2 (by kernel_rfl) (by kernel_rfl) ?_)|refine zAp ?_ ?_|refine zAn rfl rfl rfl rfl rfl ?_ ?_|refine zAg ?_ ?_|exact Rech.nil|fail)
   refine Hold.mk ?_
   repeat' (first|(refine zAd ?_;refine zAc xE (level_ct (W:=W) (hal.mono g1) t1 k1 pok (by omega) (by omega)) xP rfl (fun x=>?_);obtain ⟨⟨N2,p2⟩,g2,t2⟩:=x;dsimp only at g2 t2 ⊢)|(refine zAm ?_;refine zAb (zAx (nd:=⟨b,yk,yv,al,ar,yh,ys⟩) rfl xS (g1 _ hm) rfl) ?_)|refine xst ?_|(refine xsa ?_;intro _)|(refine xsb ?_ ?_ <;>intro _<;>try (exfalso;omega))|refine xsc ?_|(refine zAa (id:=5) plTDD0 (by kernel_rfl) (by kernel_rfl) ?_)|(refine zAa (id:=7) plTDD1 (by kernel_rfl) (by kernel_rfl) ?_)|(refine zAa (id:=8) plTDD2 (by kernel_rfl) (by kernel_rfl) ?_)|refine zAp ?_ ?_|refine zAn rfl rfl rfl rfl rfl ?_ ?_|refine zAg ?_ ?_|exact Rech.nil|fail)
   all_goals (exact xdn ⟨(N2,p2),fun y hy=>g2 y (g1 y hy),t2⟩)
  ·rw [cmp_e h1 h2] at cc
   have q1:decide ((0:Int)<0)=false:=rfl
   have he:(Tr.node yl yk yv yr yh ys).put x y=Tr.join yl x y yr:=(if_neg (by rw [h1];decide)).trans (if_neg (by rw [h2];decide))
   rw [he]
   refine Ct.enter Tryz.func73 rfl Tryz.ntmps73 (by simp) (fun R=>?_)
   repeat' (first|(refine zAd ?_;first|(refine zAc xE (join_ct (W:=W) hal har (by omega) (by omega) (by omega) (by omega)) xP rfl (fun x=>?_);obtain ⟨⟨N1,p1⟩,g1,t1⟩:=x;dsimp only at g1 t1 ⊢)|(refine zAc xE cc xP rfl (fun _=>?_)))|(refine zAm ?_;refine zAb (zAx (nd:=⟨b,yk,yv,al,ar,yh,ys⟩) rfl xS (hm) rfl) ?_)|(refine zAq ?_;refine zAb (zAe rfl rfl q1) ?_)|(refine zBf ?_;refine zAb (zAk rfl rfl q1) ?_)|refine xst ?_|(refine xsa ?_;intro _)|(refine xsb ?_ ?_ <;>intro _<;>try (exfalso;omega))|refine xsc ?_|(refine zAa (id:=5) plTDD0 (by kernel_rfl) (by kernel_rfl) ?_)|(refine zAa (id:=7) plTDD1 (by kernel_rfl) (by kernel_rfl) ?_)|(refine zAa (id:=8) plTDD2 (by kernel_rfl) (by kernel_rfl) ?_)|refine zAp ?_ ?_|refine zAn rfl rfl rfl rfl rfl ?_ ?_|refine zAg ?_ ?_|exact Rech.nil|fail)
   all_goals (exact xdn ⟨(N1,p1),g1,t1⟩)
end
end Go.Proofs.YtgipenahkmbelaaGreatDoor
namespace Go.Proofs.YtgipenahkmbelaaGreatDoor
open Go Go.RowKit
section
variable {W:World}
theorem remove_ct:∀ (t:Tr) (x:List UInt8) {N:List Nd} {a:Option Addr},TrAt N a t→t.Ok→RisR t.rows→t.cnt≤288230376151711744→(lk t.rows x).isSome=true→
 Ct Tryz.prog W 74 [.pointer a,strV x] [arP N] (fun z:Grew N (t.remove x)=>.pointer z.1.2) (fun z=>[arP z.1.1]):=by
 intro t
 induction t with
 |nil=>intro x N a hT ho hr hc hx;cases hx
 |node yl yk yv yr yh ys ihl ihr=>
  intro x N a hT ho hr hc hx
  obtain ⟨b,al,ar,rfl,hm,hal,har⟩:=hT
  have hr':RisR (yl.rows++(yk,yv)::yr.rows):=hr
  obtain ⟨r1,r2,r3,r4⟩:=ris_mid.1 hr'
  obtain ⟨k1,k2,k3,k4,k5,k6⟩:=Tr.child ho
  have hc:ys≤288230376151711744:=hc
  have u1:=Tr.tall_cnt k1
  have u2:=Tr.tall_cnt k2
  rw [show (Tr.node yl yk yv yr yh ys).rows=yl.rows++(yk,yv)::yr.rows from rfl,lk_mid hr'] at hx
  have cc:=compare_ct (W:=W) x yk
  rcases cmpV x yk with ⟨h1,h2⟩|⟨h1,h2⟩|⟨h1,h2⟩
  ·rw [cmp_l h1] at cc
   rw [if_pos h1] at hx
   have q1:decide ((-1:Int)<0)=true:=rfl
   have cp:=ihl x hal k1 r1 (by omega) hx
   have he:(Tr.node yl yk yv yr yh ys).remove x=Tr.level (yl.remove x) yk yv yr:=by (conv=>lhs;unfold Tr.remove);exact if_pos h1
   obtain ⟨pok,-⟩:=Tr.remove_ok k1 r1 x hx
   have pc:=remove_cnt k1 r1 x hx
   rw [he]
   refine Ct.enter Tryz.func74 rfl Tryz.ntmps74 (by simp) (fun R=>?_)
   repeat' (first|(refine zAd ?_;first|(refine zAc xE (cp) xP rfl (fun x=>?_);obtain ⟨⟨N1,p1⟩,g1,t1⟩:=x;dsimp only at g1 t1 ⊢;refine hold ?_)|(refine zAc xE cc xP rfl (fun _=>?_)))|(refine zAm ?_;refine zAb (zAx (nd:=⟨b,yk,yv,al,ar,yh,ys⟩) rfl xS (hm) rfl) ?_)|(refine zAq ?_;refine zAb (zAe rfl rfl q1) ?_)|refine xst ?_|(refine xsa ?_;intro _)|(refine xsb ?_ ?_ <;>intro _<;>try (exfalso;omega))|refine xsc ?_|(refine zAa (id:=3) plTDD3 (by kernel_rfl) (by kernel_rfl) ?_)|(refine zAa (id:=5) plTDD4 (by kernel_rfl) (by kernel_rfl) ?_)|(refine zAa (id:=13) plTDD5 (by kernel_rfl) (by kernel_rfl) ?_)|refine zAp ?_ ?_|refine zAn rfl rfl rfl rfl rfl ?_ ?_|refine zAg ?_ ?_|exact Rech.nil|fail)
   refine Hold.mk ?_
   repeat' (first|(refine zAd ?_;refine zAc xE (level_ct (W:=W) t1 (har.mono g1) pok k2 (by omega) (by omega)) xP rfl (fun x=>?_);obtain ⟨⟨N2,p2⟩,g2,t2⟩:=x;dsimp only at g2 t2 ⊢)|(refine zAm ?_;refine zAb (zAx (nd:=⟨b,yk,yv,al,ar,yh,ys⟩) rfl xS (g1 _ hm) rfl) ?_)|refine xst ?_|(refine xsa ?_;intro _)|(refine xsb ?_ ?_ <;>intro _<;>try (exfalso;omega))|refine xsc ?_|(refine zAa (id:=3) plTDD3 (by kernel_rfl) (by kernel_rfl) ?_)|(refine zAa (id:=5) plTDD4 (by kernel_rfl) (by kernel_rfl) ?_)|(refine zAa (id:=13) plTDD5 (by kernel_rfl) (by kernel_rfl) ?_)|refine zAp ?_ ?_|refine zAn rfl rfl rfl rfl rfl ?_ ?_|refine zAg ?_ ?_|exact Rech.nil|fail)
   all_goals (exact xdn ⟨(N2,p2),fun y hy=>g2 y (g1 y hy),t2⟩)
  ·rw [cmp_g h1 h2] at cc
   rw [if_neg (by rw [h1];decide),if_pos h2] at hx
   have q1:decide ((1:Int)<0)=false:=rfl
   have q2:decide ((0:Int)<1)=true:=rfl
   have cp:=ihr x har k2 r2 (by omega) hx
   have he:(Tr.node yl yk yv yr yh ys).remove x=Tr.level yl yk yv (yr.remove x):=by (conv=>lhs;unfold Tr.remove);exact (if_neg (by rw [h1];decide)).trans (if_pos h2)
   obtain ⟨pok,-⟩:=Tr.remove_ok k2 r2 x hx
   have pc:=remove_cnt k2 r2 x hx
   rw [he]
   refine Ct.enter Tryz.func74 rfl Tryz.ntmps74 (by simp) (fun R=>?_)
   repeat' (first|(refine zAd ?_;first|(refine zAc xE (cp) xP rfl (fun x=>?_);obtain ⟨⟨N1,p1⟩,g1,t1⟩:=x;dsimp only at g1 t1 ⊢;refine hold ?_)|(refine zAc xE cc xP rfl (fun _=>?_)))|(refine zAm ?_;refine zAb (zAx (nd:=⟨b,yk,yv,al,ar,yh,ys⟩) rfl xS (hm) rfl) ?_)|(refine zAq ?_;refine zAb (zAe rfl rfl q1) ?_)|(refine zBf ?_;refine zAb (zAk rfl rfl q2) ?_)|refine xst ?_|(refine xsa ?_;intro _)|(refine xsb ?_ ?_ <;>intro _<;>try (exfalso;omega))|refine xsc ?_|(refine zAa (id:=3) plTDD3 (by kernel_rfl) (by kernel_rfl) ?_)|(refine zAa (id:=5) plTDD4 (by kernel_rfl) (by kernel_rfl) ?_)|(refine zAa (id:=13) plTDD5 (by kernel_rfl) (by kernel_rfl) ?_)|refine zAp ?_ ?_|refine zAn rfl rfl rfl rfl rfl ?_ ?_|refine zAg ?_ ?_|exact Rech.nil|fail)
   refine Hold.mk ?_
   repeat' (first|(refine zAd ?_;refine zAc xE (level_ct (W:=W) (hal.mono g1) t1 k1 pok (by omega) (by omega)) xP rfl (fun x=>?_);obtain ⟨⟨N2,p2⟩,g2,t2⟩:=x;dsimp only at g2 t2 ⊢)|(refine zAm ?_;refine zAb (zAx (nd:=⟨b,yk,yv,al,ar,yh,ys⟩) rfl xS (g1 _ hm) rfl) ?_)|refine xst ?_|(refine xsa ?_;intro _)|(refine xsb ?_ ?_ <;>intro _<;>try (exfalso;omega))|refine xsc ?_|(refine zAa (id:=3) plTDD3 (by kernel_rfl) (by kernel_rfl) ?_)|(refine zAa (id:=5) plTDD4 (by kernel_rfl) (by kernel_rfl) ?_)|(refine zAa (id:=13) plTDD5 (by kernel_rfl) (by kernel_rfl) ?_)|refine zAp ?_ ?_|refine zAn rfl rfl rfl rfl rfl ?_ ?_|refine zAg ?_ ?_|exact Rech.nil|fail)
   all_goals (exact xdn ⟨(N2,p2),fun y hy=>g2 y (g1 y hy),t2⟩)
  ·rw [cmp_e h1 h2] at cc
   have q1:decide ((0:Int)<0)=false:=rfl
   cases yl with
   |nil=>
    cases hal
    have he:(Tr.node .nil yk yv yr yh ys).remove x=yr:=by (conv=>lhs;unfold Tr.remove);exact (if_neg (by rw [h1];decide)).trans ((if_neg (by rw [h2];decide)).trans (by cases yr <;> rfl))
    rw [he]
    refine Ct.enter Tryz.func74 rfl Tryz.ntmps74 (by simp) (fun R=>?_)
    repeat' (first|(refine zAd ?_;refine zAc xE cc xP rfl (fun _=>?_))|(refine zAm ?_;refine zAb (zAx (nd:=⟨b,yk,yv,none,ar,yh,ys⟩) rfl xS (hm) rfl) ?_)|(refine zAq ?_;refine zAb (zAe rfl rfl q1) ?_)|(refine zBf ?_;refine zAb (zAk rfl rfl q1) ?_)|refine xst ?_|(refine xsa ?_;intro _)|(refine xsb ?_ ?_ <;>intro _<;>try (exfalso;omega))|refine xsc ?_|(refine zAa (id:=3) plTDD3 (by kernel_rfl) (by kernel_rfl) ?_)|(refine zAa (id:=5) plTDD4 (by kernel_rfl) (by kernel_rfl) ?_)|(refine zAa (id:=13) plTDD5 (by kernel_rfl) (by kernel_rfl) ?_)|refine zAp ?_ ?_|refine zAn rfl rfl rfl rfl rfl ?_ ?_|refine zAg ?_ ?_|exact Rech.nil|fail)
    all_goals (exact xdn ⟨(N,ar),fun y hy=>hy,har⟩)
   |node ll lk' lv lr lh ls=>
    have hal':=hal
    obtain ⟨d,dl,dr,rfl,hmd,-,-⟩:=hal
    cases yr with
    |nil=>
     cases har
     have he:(Tr.node (.node ll lk' lv lr lh ls) yk yv .nil yh ys).remove x=.node ll lk' lv lr lh ls:=by (conv=>lhs;unfold Tr.remove);exact (if_neg (by rw [h1];decide)).trans ((if_neg (by rw [h2];decide)).trans rfl)
     rw [he]
     refine Ct.enter Tryz.func74 rfl Tryz.ntmps74 (by simp) (fun R=>?_)
     repeat' (first|(refine zAd ?_;refine zAc xE cc xP rfl (fun _=>?_))|(refine zAm ?_;refine zAb (zAx (nd:=⟨b,yk,yv,some ⟨d,0,none⟩,none,yh,ys⟩) rfl xS (hm) rfl) ?_)|(refine zAq ?_;refine zAb (zAe rfl rfl q1) ?_)|(refine zBf ?_;refine zAb (zAk rfl rfl q1) ?_)|refine xst ?_|(refine xsa ?_;intro _)|(refine xsb ?_ ?_ <;>intro _<;>try (exfalso;omega))|refine xsc ?_|(refine zAa (id:=3) plTDD3 (by kernel_rfl) (by kernel_rfl) ?_)|(refine zAa (id:=5) plTDD4 (by kernel_rfl) (by kernel_rfl) ?_)|(refine zAa (id:=13) plTDD5 (by kernel_rfl) (by kernel_rfl) ?_)|refine zAp ?_ ?_|refine zAn rfl rfl rfl rfl rfl ?_ ?_|refine zAg ?_ ?_|exact Rech.nil|fail)
     all_goals (exact xdn ⟨(N,some ⟨d,0,none⟩),fun y hy=>hy,hal'⟩)
    |node rl rk rv rr rh rs=>
     have har':=har
     obtain ⟨e,el,er,rfl,hme,-,-⟩:=har
     have he:(Tr.node (.node ll lk' lv lr lh ls) yk yv (.node rl rk rv rr rh rs) yh ys).remove x=Tr.level (.node ll lk' lv lr lh ls) (Tr.node rl rk rv rr rh rs).first.1 (Tr.node rl rk rv rr rh rs).first.2 ((Tr.node rl rk rv rr rh rs).remove (Tr.node rl rk rv rr rh rs).first.1):=by (conv=>lhs;unfold Tr.remove);exact (if_neg (by rw [h1];decide)).trans ((if_neg (by rw [h2];decide)).trans rfl)
     rw [he]
     obtain ⟨yr,hyr⟩:∃ z,z=Tr.node rl rk rv rr rh rs:=⟨_,rfl⟩
     obtain ⟨yl,hyl⟩:∃ z,z=Tr.node ll lk' lv lr lh ls:=⟨_,rfl⟩
     have hne:yr≠.nil:=by rw [hyr];intro h;cases h
     obtain ⟨R0,hR0⟩:=Tr.first_rows hne
     rw [← hyr] at har' k2 r2 k4 k6 ihr u2 ⊢
     rw [← hyl] at hal' k1 k3 k5 u1 ⊢
     obtain ⟨⟨k0,v0⟩,hkv⟩:∃ z,z=yr.first:=⟨_,rfl⟩
     rw [← hkv] at hR0 ⊢
     clear he hx ihl r3 r4 hr' hr ho
     have hsome:(lk yr.rows k0).isSome=true:=by rw [hR0,lk_cons,if_pos rfl];rfl
     have cp:=ihr k0 har' k2 r2 (by omega) hsome
     obtain ⟨pok,-⟩:=Tr.remove_ok k2 r2 _ hsome
     have pc:=remove_cnt k2 r2 _ hsome
     refine Ct.enter Tryz.func74 rfl Tryz.ntmps74 (by simp) (fun R=>?_)
     repeat' (first|(refine zAd ?_;refine zAc xE cc xP rfl (fun _=>?_))|(refine zAm ?_;refine zAb (zAx (nd:=⟨b,yk,yv,some ⟨d,0,none⟩,some ⟨e,0,none⟩,yh,ys⟩) rfl xS (hm) rfl) ?_)|(refine zAq ?_;refine zAb (zAe rfl rfl q1) ?_)|(refine zBf ?_;refine zAb (zAk rfl rfl q1) ?_)|refine xst ?_|(refine xsa ?_;intro _)|(refine xsb ?_ ?_ <;>intro _<;>try (exfalso;omega))|refine xsc ?_|(refine zAa (id:=3) plTDD3 (by kernel_rfl) (by kernel_rfl) ?_)|(refine zAa (id:=5) plTDD4 (by kernel_rfl) (by kernel_rfl) ?_)|(refine zAa (id:=13) plTDD5 (by kernel_rfl) (by kernel_rfl) ?_)|refine zAp ?_ ?_|refine zAn rfl rfl rfl rfl rfl ?_ ?_|refine zAg ?_ ?_|exact Rech.nil|fail)
     refine zBv (fun i:{i:Option Addr × Tr//TrAt N i.1 i.2∧i.2≠.nil∧i.2.first=(k0,v0)}=>[(0,.pointer (some ⟨b,0,none⟩)),(6,.pointer i.1.1)])
      (fun _=>[arP N]++R) (fun i=>i.1.2.sz) ⟨(some ⟨e,0,none⟩,yr),har',hne,hkv.symm⟩ xB (xN) (fun ⟨(f,u),hb,hu,hfi⟩=>?_)
     dsimp only at hb hu hfi ⊢
     cases u with
     |nil=>exact absurd rfl hu
     |node wl wk wv wr wh ws=>
      obtain ⟨f,fl,fr,rfl,hmf,hfl,hfr⟩:=hb
      cases wl with
      |nil=>
       cases hfl
       have hfi:(wk,wv)=(k0,v0):=hfi
       have hk1:wk=k0:=congrArg Prod.fst hfi
       have hv1:wv=v0:=congrArg Prod.snd hfi
       subst hk1;subst hv1
       repeat' (first|(refine zAd ?_;refine zAc xE (cp) xP rfl (fun x=>?_);obtain ⟨⟨N1,p1⟩,g1,t1⟩:=x;dsimp only at g1 t1 ⊢;refine hold ?_)|(refine zAm ?_;first|refine zAb (zAx (nd:=⟨f,wk,wv,none,fr,wh,ws⟩) rfl xS (hmf) rfl) ?_|refine zAb (zAx (nd:=⟨b,yk,yv,some ⟨d,0,none⟩,some ⟨e,0,none⟩,yh,ys⟩) rfl xS (hm) rfl) ?_)|refine xst ?_|(refine xsa ?_;intro _)|(refine xsb ?_ ?_ <;>intro _<;>try (exfalso;omega))|refine xsc ?_|(refine zAa (id:=3) plTDD3 (by kernel_rfl) (by kernel_rfl) ?_)|(refine zAa (id:=5) plTDD4 (by kernel_rfl) (by kernel_rfl) ?_)|(refine zAa (id:=13) plTDD5 (by kernel_rfl) (by kernel_rfl) ?_)|refine zAp ?_ ?_|refine zAn rfl rfl rfl rfl rfl ?_ ?_|refine zAg ?_ ?_|exact Rech.nil|fail)
       refine Hold.mk ?_
       repeat' (first|(refine zAd ?_;refine zAc xE (level_ct (W:=W) (hal'.mono g1) t1 k1 pok (by omega) (by omega)) xP rfl (fun x=>?_);obtain ⟨⟨N2,p2⟩,g2,t2⟩:=x;dsimp only at g2 t2 ⊢)|(refine zAm ?_;first|refine zAb (zAx (nd:=⟨f,wk,wv,none,fr,wh,ws⟩) rfl xS (g1 _ hmf) rfl) ?_|refine zAb (zAx (nd:=⟨b,yk,yv,some ⟨d,0,none⟩,some ⟨e,0,none⟩,yh,ys⟩) rfl xS (g1 _ hm) rfl) ?_)|refine xst ?_|(refine xsa ?_;intro _)|(refine xsb ?_ ?_ <;>intro _<;>try (exfalso;omega))|refine xsc ?_|(refine zAa (id:=3) plTDD3 (by kernel_rfl) (by kernel_rfl) ?_)|(refine zAa (id:=5) plTDD4 (by kernel_rfl) (by kernel_rfl) ?_)|(refine zAa (id:=13) plTDD5 (by kernel_rfl) (by kernel_rfl) ?_)|refine zAp ?_ ?_|refine zAn rfl rfl rfl rfl rfl ?_ ?_|refine zAg ?_ ?_|exact Rech.nil|fail)
       all_goals (exact xdn ⟨(N2,p2),fun y hy=>g2 y (g1 y hy),t2⟩)
      |node vl vk vv vr vh vs=>
       have hfl':=hfl
       obtain ⟨q,ql,qr,rfl,hmq,-,-⟩:=hfl
       repeat' (first|(refine zAm ?_;refine zAb (zAx (nd:=⟨f,wk,wv,some ⟨q,0,none⟩,fr,wh,ws⟩) rfl xS (hmf) rfl) ?_)|refine xst ?_|(refine xsa ?_;intro _)|(refine xsb ?_ ?_ <;>intro _<;>try (exfalso;omega))|refine xsc ?_|(refine zAa (id:=3) plTDD3 (by kernel_rfl) (by kernel_rfl) ?_)|(refine zAa (id:=5) plTDD4 (by kernel_rfl) (by kernel_rfl) ?_)|(refine zAa (id:=13) plTDD5 (by kernel_rfl) (by kernel_rfl) ?_)|refine zAp ?_ ?_|refine zAn rfl rfl rfl rfl rfl ?_ ?_|refine zAg ?_ ?_|exact Rech.nil|fail)
       all_goals refine zAv ⟨(some ⟨q,0,none⟩,.node vl vk vv vr vh vs),hfl',(fun h=>by cases h),hfi⟩ (by show Tr.sz (.node vl vk vv vr vh vs)<Tr.sz (.node vl vk vv vr vh vs)+wr.sz+1;omega) xB (xN)
end
end Go.Proofs.YtgipenahkmbelaaGreatDoor
