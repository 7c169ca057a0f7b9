/-
  TbW3, TbW4.
-/
import Derived.Test.YtlnbkbfblhofbaaGreatDoorVDC
set_option maxHeartbeats 64000000
namespace Go.Proofs.YtlnbkbfblhofbaaGreatDoor
open Go Go.RowKit
open Go.Proofs.Tryz
abbrev yKp:Pl:=(.op 0 (.op 1 (.op 2 (.op 3 (.op 4 (.op 5 (.op 7 (.op 8 (.op 9 (.op 10 (.op 11 (.op 12 (.op 13 (.op 14 (.op 15 (.op 16 (.op 17 (.op 18 (.ef 6 [18,17,16,15,14,13,12,11,10,9,8,7] (.ef 19 [] (.op 20 .nil)))))))))))))))))))))
abbrev yKq:Pl:=(.op 0 (.op 1 (.op 2 (.op 3 (.op 4 (.op 5 (.op 6 (.op 7 (.op 8 (.op 9 (.op 10 (.op 11 (.op 12 (.op 13 (.op 14 (.op 15 (.op 16 (.op 17 (.ef 18 [11,10,9,8,7,6,5,4,3,2,1,0] (.ef 19 [] (.op 20 .nil)))))))))))))))))))))
abbrev yKr:Pl:=(.op 0 (.op 1 (.op 2 (.op 3 (.op 4 (.op 5 (.op 6 (.op 7 (.op 8 (.op 9 (.ef 10 [] (.op 11 .nil))))))))))))
abbrev yGb:Pl:=(.op 0 (.op 1 (.op 2 (.op 3 (.op 4 (.op 6 (.op 7 (.op 8 (.op 9 (.op 10 (.op 11 (.op 12 (.op 13 (.op 14 (.op 15 (.op 16 (.op 17 (.ef 5 [17,16,15,14,13,12,11,10,9,8,7,6] (.ef 18 [] (.op 19 .nil))))))))))))))))))))
abbrev yGc:Pl:=(.op 0 (.op 1 (.op 2 (.op 3 (.op 4 (.op 5 (.op 6 (.op 7 (.op 8 (.op 9 (.op 10 (.op 11 (.op 12 (.op 13 (.op 14 (.op 15 (.op 16 (.ef 17 [11,10,9,8,7,6,5,4,3,2,1,0] (.ef 18 [] (.op 19 .nil))))))))))))))))))))
abbrev yGd:Pl:=(.op 0 (.op 1 (.op 2 (.op 3 (.op 4 (.op 5 (.op 6 (.op 7 (.op 8 (.op 9 (.op 10 (.op 11 (.op 12 (.op 13 (.op 14 (.op 15 (.op 16 (.op 17 (.op 18 (.op 19 (.ef 20 [11,10,9,8,7,6,5,4,3,2,1,0] (.ef 21 [] (.op 22 .nil)))))))))))))))))))))))
def Tr.sz:Tr→Nat
 |.nil=>0
 |.node l _ _ r _ _=>l.sz+r.sz+1
theorem yVk {γ:Type} {f:γ→List UInt8} (l:List γ) (x:γ):(yO2 f l x).length=l.length+1:=by
 have:=yO3 (f:=f) l (f x)
 rw [yLb]
 simp only [zLa,zLg,zLf,List.length_singleton]
 omega
theorem yIy (r:Rows) (k v:List UInt8):(yE4 r k v).length≤r.length+1:=by
 unfold yE4
 split
 ·rw [zLD];omega
 ·rw [yVk];exact Nat.le_refl _
theorem yS0 {t:Tr} (h:t.Ok) (hr:RisR t.rows) (k v:List UInt8):(t.put k v).cnt≤t.cnt+1:=by
 obtain ⟨o,e,-,-⟩:=Tr.put_ok h hr k v
 rw [Tr.cnt_rows o,e,Tr.cnt_rows h]
 exact yIy _ _ _
theorem yHO {t:Tr} (h:t.Ok) (hr:RisR t.rows) (k:List UInt8) (hk:(lk t.rows k).isSome=true):(t.remove k).cnt≤t.cnt:=by
 obtain ⟨o,e,-,-⟩:=Tr.remove_ok h hr k hk
 rw [Tr.cnt_rows o,e,Tr.cnt_rows h]
 exact List.length_filter_le _ _
theorem yXH {a c:List UInt8} (h:Op.bytesLess a c=true):yQB a c=-1:=by unfold yQB;rw [if_pos h]
theorem yXI {a c:List UInt8} (h:Op.bytesLess a c=false) (h2:Op.bytesLess c a=true):yQB a c=1:=by unfold yQB;rw [if_neg (by rw [h];decide),if_pos h2]
theorem yXJ {a c:List UInt8} (h:Op.bytesLess a c=false) (h2:Op.bytesLess c a=false):yQB a c=0:=by unfold yQB;rw [if_neg (by rw [h];decide),if_neg (by rw [h2];decide)]
theorem xAt {l r:Tr} {k v x:List UInt8} {h s:Nat} (c:Op.bytesLess x k=true):(Tr.node l k v r h s).get x=l.get x:=if_pos c
theorem xAu {l r:Tr} {k v x:List UInt8} {h s:Nat} (c:Op.bytesLess x k=false) (c2:Op.bytesLess k x=true):(Tr.node l k v r h s).get x=r.get x:=(if_neg (by rw [c];decide)).trans (if_pos c2)
theorem xAv {l r:Tr} {k v x:List UInt8} {h s:Nat} (c:Op.bytesLess x k=false) (c2:Op.bytesLess k x=false):(Tr.node l k v r h s).get x=some v:=(if_neg (by rw [c];decide)).trans (if_neg (by rw [c2];decide))
section
variable {W:World} {N:List Nd}
theorem yOi {a:Option Addr} {t:Tr} (hT:TrAt N a t) (x:List UInt8) :
 CtU prog W 107 [.pointer a,strV x] [arP N] (.tuple #[strV ((t.get x).getD []),.bool (t.get x).isSome]) [arP N]:=by
 refine Ct.enter func107 rfl ntmps107 zW (fun R=>?_)
 repeat' (first|refine xst ?_|refine xsa ?_;intro _|refine xsb ?_ ?_<;>intro _<;>try omega|refine xsc ?_|fail)
 refine yAz (fun i:{i:Option Addr × Tr//TrAt N i.1 i.2∧i.2.get x=t.get x}=>[(0,.pointer i.1.1),(1,strV x)])
  (fun _=>[arP N]++R) (fun i=>i.1.2.sz) ⟨(a,t),hT,rfl⟩ xB (xN) (fun ⟨(b,u),hb,hu⟩=>?_)
 dsimp only at hb hu ⊢
 cases u with
 |nil=>
  cases hb
  repeat' (first|refine xst ?_|refine xsa ?_;intro _|refine xsb ?_ ?_<;>intro _<;>try omega|refine xsc ?_|fail)
  all_goals exact xdn () (hc:=by rw [← hu];rfl)
 |node yl yk yv yr yh ys=>
  obtain ⟨b,al,ar,rfl,hm,hal,har⟩:=hb
  have cc:=yHN (W:=W) x yk
  rcases yZ2 x yk with ⟨h1,h2⟩|⟨h1,h2⟩|⟨h1,h2⟩
  ·rw [yXH h1] at cc
   rw [xAt h1] at hu
   have q1:decide ((-1:Int)<0)=true:=rfl
   repeat' (first|refine yAb ?_;refine xca cc fun _=>?_|refine yAj ?_;refine yAa (yAy (nd:=⟨b,yk,yv,al,ar,yh,ys⟩) rfl xS hm rfl) ?_|refine yAa (yAc rfl rfl q1) ?_|refine xst ?_|refine xsa ?_;intro _|refine xsb ?_ ?_<;>intro _<;>try omega|refine xsc ?_|fail)
   all_goals refine yAp ⟨(al,yl),hal,hu⟩ (by show yl.sz<yl.sz+yr.sz+1;omega) xB (xN)
  ·rw [yXI h1 h2] at cc
   rw [xAu h1 h2] at hu
   have q1:decide ((1:Int)<0)=false:=rfl
   have q2:decide ((0:Int)<1)=true:=rfl
   repeat' (first|refine yAb ?_;refine xca cc fun _=>?_|refine yAj ?_;refine yAa (yAy (nd:=⟨b,yk,yv,al,ar,yh,ys⟩) rfl xS hm rfl) ?_|refine yAa (yAc rfl rfl q1) ?_|refine yAa (yAe rfl rfl q2) ?_|refine xst ?_|refine xsa ?_;intro _|refine xsb ?_ ?_<;>intro _<;>try omega|refine xsc ?_|fail)
   all_goals refine yAp ⟨(ar,yr),har,hu⟩ (by show yr.sz<yl.sz+yr.sz+1;omega) xB (xN)
  ·rw [yXJ h1 h2] at cc
   rw [xAv h1 h2] at hu
   have q1:decide ((0:Int)<0)=false:=rfl
   repeat' (first|refine yAb ?_;refine xca cc fun _=>?_|refine yAj ?_;refine yAa (yAy (nd:=⟨b,yk,yv,al,ar,yh,ys⟩) rfl xS hm rfl) ?_|refine yAa (yAc rfl rfl q1) ?_|refine yAa (yAe rfl rfl q1) ?_|refine xst ?_|refine xsa ?_;intro _|refine xsb ?_ ?_<;>intro _<;>try omega|refine xsc ?_|fail)
   all_goals exact xdn () (hc:=by rw [← hu];rfl)
theorem yXK (x y:List UInt8):∀ (t:Tr) {N:List Nd} {a:Option Addr},TrAt N a t→t.Ok→RisR t.rows→t.cnt≤288230376151711744→
 Ct prog W 121 [.pointer a,strV x,strV y] [arP N] (fun z:yZ1 N (t.put x y)=>.pointer z.1.2) (fun z=>[arP z.1.1]):=by
 intro t
 induction t with
 |nil=>
  intro N a hT ho hr hc
  cases hT
  have cj:=yC9 (W:=W) (N:=N) (a:=none) (c:=none) (l:=.nil) (r:=.nil) (k:=x) (v:=y) rfl rfl zX zX zX zX
  refine Ct.enter func121 rfl ntmps121 zW (fun R=>?_)
  repeat' (first|refine yAb ?_;refine xca (cj) fun x=>?_;obtain ⟨⟨N1,p1⟩,g1,t1⟩:=x;dsimp only at g1 t1 ⊢|refine xst ?_|refine xsa ?_;intro _|refine xsb ?_ ?_<;>intro _<;>try omega|refine xsc ?_|refine xdr 5 yKp ?_|refine xdr 7 yKq ?_|refine xdr 8 yKr ?_|refine xsd ?_ ?_|exact Rech.nil|fail)
  all_goals (exact xdn ⟨(N1,p1),g1,t1⟩)
 |node yl yk yv yr yh ys ihl ihr=>
  intro N a hT ho hr hc
  obtain ⟨b,al,ar,rfl,hm,hal,har⟩:=hT
  obtain ⟨r1,r2,r3,r4⟩:=ris_mid.1 (show RisR (yl.rows++(yk,yv)::yr.rows) from hr)
  obtain ⟨k1,k2,k3,k4,k5,k6⟩:=Tr.child ho
  have hc:ys≤288230376151711744:=hc
  have u1:=Tr.tall_cnt k1
  have u2:=Tr.tall_cnt k2
  have cc:=yHN (W:=W) x yk
  rcases yZ2 x yk with ⟨h1,h2⟩|⟨h1,h2⟩|⟨h1,h2⟩
  ·rw [yXH h1] at cc
   have q1:decide ((-1:Int)<0)=true:=rfl
   have cp:=ihl hal k1 r1 zO
   have he:(Tr.node yl yk yv yr yh ys).put x y=Tr.level (yl.put x y) yk yv yr:=if_pos h1
   obtain ⟨pok,-⟩:=Tr.put_ok k1 r1 x y
   have pc:=yS0 k1 r1 x y
   rw [he]
   refine Ct.enter func121 rfl ntmps121 zW (fun R=>?_)
   repeat' (first|(refine yAb ?_;first|refine xca (cp) fun x=>?_;obtain ⟨⟨N1,p1⟩,g1,t1⟩:=x;dsimp only at g1 t1 ⊢;refine yCO ?_|refine xca cc fun _=>?_)|refine yAj ?_;refine yAa (yAy (nd:=⟨b,yk,yv,al,ar,yh,ys⟩) rfl xS (hm) rfl) ?_|refine yAa (yAc rfl rfl q1) ?_|refine xst ?_|refine xsa ?_;intro _|refine xsb ?_ ?_<;>intro _<;>try omega|refine xsc ?_|refine xdr 5 yKp ?_|refine xdr 7 yKq ?_|refine xdr 8 yKr ?_|refine xsd ?_ ?_|exact Rech.nil|fail)
   refine Hold.mk ?_
   repeat' (first|refine yAb ?_;refine xca (yG8 (W:=W) t1 (har.mono g1) pok k2 zO zO) fun x=>?_;obtain ⟨⟨N2,p2⟩,g2,t2⟩:=x;dsimp only at g2 t2 ⊢|refine yAj ?_;refine yAa (yAy (nd:=⟨b,yk,yv,al,ar,yh,ys⟩) rfl xS (g1 _ hm) rfl) ?_|refine xst ?_|refine xsa ?_;intro _|refine xsb ?_ ?_<;>intro _<;>try omega|refine xsc ?_|refine xdr 5 yKp ?_|refine xdr 7 yKq ?_|refine xdr 8 yKr ?_|refine xsd ?_ ?_|exact Rech.nil|fail)
   all_goals (exact xdn ⟨(N2,p2),fun y hy=>g2 y (g1 y hy),t2⟩)
  ·rw [yXI h1 h2] at cc
   have q1:decide ((1:Int)<0)=false:=rfl
   have q2:decide ((0:Int)<1)=true:=rfl
   have cp:=ihr har k2 r2 zO
   have he:(Tr.node yl yk yv yr yh ys).put x y=Tr.level yl yk yv (yr.put x y):=(if_neg (by rw [h1];decide)).trans (if_pos h2)
   obtain ⟨pok,-⟩:=Tr.put_ok k2 r2 x y
   have pc:=yS0 k2 r2 x y
   rw [he]
   refine Ct.enter func121 rfl ntmps121 zW (fun R=>?_)
   repeat' (first|(refine yAb ?_;first|refine xca (cp) fun x=>?_;obtain ⟨⟨N1,p1⟩,g1,t1⟩:=x;dsimp only at g1 t1 ⊢;refine yCO ?_|refine xca cc fun _=>?_)|refine yAj ?_;refine yAa (yAy (nd:=⟨b,yk,yv,al,ar,yh,ys⟩) rfl xS (hm) rfl) ?_|refine yAa (yAc rfl rfl q1) ?_|refine yAa (yAe rfl rfl q2) ?_|refine xst ?_|refine xsa ?_;intro _|refine xsb ?_ ?_<;>intro _<;>try omega|refine xsc ?_|refine xdr 5 yKp ?_|refine xdr 7 yKq ?_|refine xdr 8 yKr ?_|refine xsd ?_ ?_|exact Rech.nil|fail)
   refine Hold.mk ?_
   repeat' (first|refine yAb ?_;refine xca (yG8 (W:=W) (hal.mono g1) t1 k1 pok zO zO) fun x=>?_;obtain ⟨⟨N2,p2⟩,g2,t2⟩:=x;dsimp only at g2 t2 ⊢|refine yAj ?_;refine yAa (yAy (nd:=⟨b,yk,yv,al,ar,yh,ys⟩) rfl xS (g1 _ hm) rfl) ?_|refine xst ?_|refine xsa ?_;intro _|refine xsb ?_ ?_<;>intro _<;>try omega|refine xsc ?_|refine xdr 5 yKp ?_|refine xdr 7 yKq ?_|refine xdr 8 yKr ?_|refine xsd ?_ ?_|exact Rech.nil|fail)
   all_goals (exact xdn ⟨(N2,p2),fun y hy=>g2 y (g1 y hy),t2⟩)
  ·rw [yXJ h1 h2] at cc
   have q1:decide ((0:Int)<0)=false:=rfl
   have he:(Tr.node yl yk yv yr yh ys).put x y=Tr.join yl x y yr:=(if_neg (by rw [h1];decide)).trans (if_neg (by rw [h2];decide))
   rw [he]
   refine Ct.enter func121 rfl ntmps121 zW (fun R=>?_)
   repeat' (first|(refine yAb ?_;first|refine xca (yC9 (W:=W) hal har zO zO zO zO) fun x=>?_;obtain ⟨⟨N1,p1⟩,g1,t1⟩:=x;dsimp only at g1 t1 ⊢|refine xca cc fun _=>?_)|refine yAj ?_;refine yAa (yAy (nd:=⟨b,yk,yv,al,ar,yh,ys⟩) rfl xS (hm) rfl) ?_|refine yAa (yAc rfl rfl q1) ?_|refine yAa (yAe rfl rfl q1) ?_|refine xst ?_|refine xsa ?_;intro _|refine xsb ?_ ?_<;>intro _<;>try omega|refine xsc ?_|refine xdr 5 yKp ?_|refine xdr 7 yKq ?_|refine xdr 8 yKr ?_|refine xsd ?_ ?_|exact Rech.nil|fail)
   all_goals (exact xdn ⟨(N1,p1),g1,t1⟩)
end
section
variable {W:World}
theorem yS1:∀ (t:Tr) (x:List UInt8) {N:List Nd} {a:Option Addr},TrAt N a t→t.Ok→RisR t.rows→t.cnt≤288230376151711744→(lk t.rows x).isSome=true→
 Ct prog W 120 [.pointer a,strV x] [arP N] (fun z:yZ1 N (t.remove x)=>.pointer z.1.2) (fun z=>[arP z.1.1]):=by
 intro t
 induction t with
 |nil=>intro x N a hT ho hr hc hx;cases hx
 |node yl yk yv yr yh ys ihl ihr=>
  intro x N a hT ho hr hc hx
  obtain ⟨b,al,ar,rfl,hm,hal,har⟩:=hT
  have hr':RisR (yl.rows++(yk,yv)::yr.rows):=hr
  obtain ⟨r1,r2,r3,r4⟩:=ris_mid.1 hr'
  obtain ⟨k1,k2,k3,k4,k5,k6⟩:=Tr.child ho
  have hc:ys≤288230376151711744:=hc
  have u1:=Tr.tall_cnt k1
  have u2:=Tr.tall_cnt k2
  rw [show (Tr.node yl yk yv yr yh ys).rows=yl.rows++(yk,yv)::yr.rows from rfl,yGS hr'] at hx
  have cc:=yHN (W:=W) x yk
  rcases yZ2 x yk with ⟨h1,h2⟩|⟨h1,h2⟩|⟨h1,h2⟩
  ·rw [yXH h1] at cc
   rw [if_pos h1] at hx
   have q1:decide ((-1:Int)<0)=true:=rfl
   have cp:=ihl x hal k1 r1 zO hx
   have he:(Tr.node yl yk yv yr yh ys).remove x=Tr.level (yl.remove x) yk yv yr:=by (conv=>lhs;unfold Tr.remove);exact if_pos h1
   obtain ⟨pok,-⟩:=Tr.remove_ok k1 r1 x hx
   have pc:=yHO k1 r1 x hx
   rw [he]
   refine Ct.enter func120 rfl ntmps120 zW (fun R=>?_)
   repeat' (first|(refine yAb ?_;first|refine xca (cp) fun x=>?_;obtain ⟨⟨N1,p1⟩,g1,t1⟩:=x;dsimp only at g1 t1 ⊢;refine yCO ?_|refine xca cc fun _=>?_)|refine yAj ?_;refine yAa (yAy (nd:=⟨b,yk,yv,al,ar,yh,ys⟩) rfl xS (hm) rfl) ?_|refine yAa (yAc rfl rfl q1) ?_|refine xst ?_|refine xsa ?_;intro _|refine xsb ?_ ?_<;>intro _<;>try omega|refine xsc ?_|refine xdr 3 yGb ?_|refine xdr 5 yGc ?_|refine xdr 13 yGd ?_|refine xsd ?_ ?_|exact Rech.nil|fail)
   refine Hold.mk ?_
   repeat' (first|refine yAb ?_;refine xca (yG8 (W:=W) t1 (har.mono g1) pok k2 zO zO) fun x=>?_;obtain ⟨⟨N2,p2⟩,g2,t2⟩:=x;dsimp only at g2 t2 ⊢|refine yAj ?_;refine yAa (yAy (nd:=⟨b,yk,yv,al,ar,yh,ys⟩) rfl xS (g1 _ hm) rfl) ?_|refine xst ?_|refine xsa ?_;intro _|refine xsb ?_ ?_<;>intro _<;>try omega|refine xsc ?_|refine xdr 3 yGb ?_|refine xdr 5 yGc ?_|refine xdr 13 yGd ?_|refine xsd ?_ ?_|exact Rech.nil|fail)
   all_goals (exact xdn ⟨(N2,p2),fun y hy=>g2 y (g1 y hy),t2⟩)
  ·rw [yXI h1 h2] at cc
   rw [if_neg (by rw [h1];decide),if_pos h2] at hx
   have q1:decide ((1:Int)<0)=false:=rfl
   have q2:decide ((0:Int)<1)=true:=rfl
   have cp:=ihr x har k2 r2 zO hx
   have he:(Tr.node yl yk yv yr yh ys).remove x=Tr.level yl yk yv (yr.remove x):=by (conv=>lhs;unfold Tr.remove);exact (if_neg (by rw [h1];decide)).trans (if_pos h2)
   obtain ⟨pok,-⟩:=Tr.remove_ok k2 r2 x hx
   have pc:=yHO k2 r2 x hx
   rw [he]
   refine Ct.enter func120 rfl ntmps120 zW (fun R=>?_)
   repeat' (first|(refine yAb ?_;first|refine xca (cp) fun x=>?_;obtain ⟨⟨N1,p1⟩,g1,t1⟩:=x;dsimp only at g1 t1 ⊢;refine yCO ?_|refine xca cc fun _=>?_)|refine yAj ?_;refine yAa (yAy (nd:=⟨b,yk,yv,al,ar,yh,ys⟩) rfl xS (hm) rfl) ?_|refine yAa (yAc rfl rfl q1) ?_|refine yAa (yAe rfl rfl q2) ?_|refine xst ?_|refine xsa ?_;intro _|refine xsb ?_ ?_<;>intro _<;>try omega|refine xsc ?_|refine xdr 3 yGb ?_|refine xdr 5 yGc ?_|refine xdr 13 yGd ?_|refine xsd ?_ ?_|exact Rech.nil|fail)
   refine Hold.mk ?_
   repeat' (first|refine yAb ?_;refine xca (yG8 (W:=W) (hal.mono g1) t1 k1 pok zO zO) fun x=>?_;obtain ⟨⟨N2,p2⟩,g2,t2⟩:=x;dsimp only at g2 t2 ⊢|refine yAj ?_;refine yAa (yAy (nd:=⟨b,yk,yv,al,ar,yh,ys⟩) rfl xS (g1 _ hm) rfl) ?_|refine xst ?_|refine xsa ?_;intro _|refine xsb ?_ ?_<;>intro _<;>try omega|refine xsc ?_|refine xdr 3 yGb ?_|refine xdr 5 yGc ?_|refine xdr 13 yGd ?_|refine xsd ?_ ?_|exact Rech.nil|fail)
   all_goals (exact xdn ⟨(N2,p2),fun y hy=>g2 y (g1 y hy),t2⟩)
  ·rw [yXJ h1 h2] at cc
   have q1:decide ((0:Int)<0)=false:=rfl
   cases yl with
   |nil=>
    cases hal
    have he:(Tr.node .nil yk yv yr yh ys).remove x=yr:=by (conv=>lhs;unfold Tr.remove);exact (if_neg (by rw [h1];decide)).trans ((if_neg (by rw [h2];decide)).trans (by cases yr <;> rfl))
    rw [he]
    refine Ct.enter func120 rfl ntmps120 zW (fun R=>?_)
    repeat' (first|refine yAb ?_;refine xca cc fun _=>?_|refine yAj ?_;refine yAa (yAy (nd:=⟨b,yk,yv,none,ar,yh,ys⟩) rfl xS (hm) rfl) ?_|refine yAa (yAc rfl rfl q1) ?_|refine yAa (yAe rfl rfl q1) ?_|refine xst ?_|refine xsa ?_;intro _|refine xsb ?_ ?_<;>intro _<;>try omega|refine xsc ?_|refine xdr 3 yGb ?_|refine xdr 5 yGc ?_|refine xdr 13 yGd ?_|refine xsd ?_ ?_|exact Rech.nil|fail)
    all_goals (exact xdn ⟨(N,ar),fun y hy=>hy,har⟩)
   |node ll lk' lv lr lh ls=>
    have hal':=hal
    obtain ⟨d,dl,dr,rfl,hmd,-,-⟩:=hal
    cases yr with
    |nil=>
     cases har
     have he:(Tr.node (.node ll lk' lv lr lh ls) yk yv .nil yh ys).remove x=.node ll lk' lv lr lh ls:=by (conv=>lhs;unfold Tr.remove);exact (if_neg (by rw [h1];decide)).trans ((if_neg (by rw [h2];decide)).trans rfl)
     rw [he]
     refine Ct.enter func120 rfl ntmps120 zW (fun R=>?_)
     repeat' (first|refine yAb ?_;refine xca cc fun _=>?_|refine yAj ?_;refine yAa (yAy (nd:=⟨b,yk,yv,some ⟨d,0,none⟩,none,yh,ys⟩) rfl xS (hm) rfl) ?_|refine yAa (yAc rfl rfl q1) ?_|refine yAa (yAe rfl rfl q1) ?_|refine xst ?_|refine xsa ?_;intro _|refine xsb ?_ ?_<;>intro _<;>try omega|refine xsc ?_|refine xdr 3 yGb ?_|refine xdr 5 yGc ?_|refine xdr 13 yGd ?_|refine xsd ?_ ?_|exact Rech.nil|fail)
     all_goals (exact xdn ⟨(N,some ⟨d,0,none⟩),fun y hy=>hy,hal'⟩)
    |node rl rk rv rr rh rs=>
     have har':=har
     obtain ⟨e,el,er,rfl,hme,-,-⟩:=har
     have he:(Tr.node (.node ll lk' lv lr lh ls) yk yv (.node rl rk rv rr rh rs) yh ys).remove x=Tr.level (.node ll lk' lv lr lh ls) (Tr.node rl rk rv rr rh rs).first.1 (Tr.node rl rk rv rr rh rs).first.2 ((Tr.node rl rk rv rr rh rs).remove (Tr.node rl rk rv rr rh rs).first.1):=by (conv=>lhs;unfold Tr.remove);exact (if_neg (by rw [h1];decide)).trans ((if_neg (by rw [h2];decide)).trans rfl)
     rw [he]
     obtain ⟨yr,hyr⟩:∃ z,z=Tr.node rl rk rv rr rh rs:=⟨_,rfl⟩
     obtain ⟨yl,hyl⟩:∃ z,z=Tr.node ll lk' lv lr lh ls:=⟨_,rfl⟩
     have hne:yr≠.nil:=by rw [hyr];intro h;cases h
     obtain ⟨R0,hR0⟩:=Tr.first_rows hne
     rw [← hyr] at har' k2 r2 k4 k6 ihr u2 ⊢
     rw [← hyl] at hal' k1 k3 k5 u1 ⊢
     obtain ⟨⟨k0,v0⟩,hkv⟩:∃ z,z=yr.first:=⟨_,rfl⟩
     rw [← hkv] at hR0 ⊢
     clear he hx ihl r3 r4 hr' hr ho
     have hsome:(lk yr.rows k0).isSome=true:=by rw [hR0,yNO,if_pos rfl];rfl
     have cp:=ihr k0 har' k2 r2 zO hsome
     obtain ⟨pok,-⟩:=Tr.remove_ok k2 r2 _ hsome
     have pc:=yHO k2 r2 _ hsome
     refine Ct.enter func120 rfl ntmps120 zW (fun R=>?_)
     repeat' (first|refine yAb ?_;refine xca cc fun _=>?_|refine yAj ?_;refine yAa (yAy (nd:=⟨b,yk,yv,some ⟨d,0,none⟩,some ⟨e,0,none⟩,yh,ys⟩) rfl xS (hm) rfl) ?_|refine yAa (yAc rfl rfl q1) ?_|refine yAa (yAe rfl rfl q1) ?_|refine xst ?_|refine xsa ?_;intro _|refine xsb ?_ ?_<;>intro _<;>try omega|refine xsc ?_|refine xdr 3 yGb ?_|refine xdr 5 yGc ?_|refine xdr 13 yGd ?_|refine xsd ?_ ?_|exact Rech.nil|fail)
     refine yAz (fun i:{i:Option Addr × Tr//TrAt N i.1 i.2∧i.2≠.nil∧i.2.first=(k0,v0)}=>[(0,zPp b),(6,.pointer i.1.1)])
      (fun _=>[arP N]++R) (fun i=>i.1.2.sz) ⟨(some ⟨e,0,none⟩,yr),har',hne,hkv.symm⟩ xB (xN) (fun ⟨(f,u),hb,hu,hfi⟩=>?_)
     dsimp only at hb hu hfi ⊢
     cases u with
     |nil=>exact absurd rfl hu
     |node wl wk wv wr wh ws=>
      obtain ⟨f,fl,fr,rfl,hmf,hfl,hfr⟩:=hb
      cases wl with
      |nil=>
       cases hfl
       have hfi:(wk,wv)=(k0,v0):=hfi
       have hk1:wk=k0:=congrArg Prod.fst hfi
       have hv1:wv=v0:=congrArg Prod.snd hfi
       subst hk1;subst hv1
       repeat' (first|refine yAb ?_;refine xca (cp) fun x=>?_;obtain ⟨⟨N1,p1⟩,g1,t1⟩:=x;dsimp only at g1 t1 ⊢;refine yCO ?_|(refine yAj ?_;first|refine yAa (yAy (nd:=⟨f,wk,wv,none,fr,wh,ws⟩) rfl xS (hmf) rfl) ?_|refine yAa (yAy (nd:=⟨b,yk,yv,some ⟨d,0,none⟩,some ⟨e,0,none⟩,yh,ys⟩) rfl xS (hm) rfl) ?_)|refine xst ?_|refine xsa ?_;intro _|refine xsb ?_ ?_<;>intro _<;>try omega|refine xsc ?_|refine xdr 3 yGb ?_|refine xdr 5 yGc ?_|refine xdr 13 yGd ?_|refine xsd ?_ ?_|exact Rech.nil|fail)
       refine Hold.mk ?_
       repeat' (first|refine yAb ?_;refine xca (yG8 (W:=W) (hal'.mono g1) t1 k1 pok zO zO) fun x=>?_;obtain ⟨⟨N2,p2⟩,g2,t2⟩:=x;dsimp only at g2 t2 ⊢|(refine yAj ?_;first|refine yAa (yAy (nd:=⟨f,wk,wv,none,fr,wh,ws⟩) rfl xS (g1 _ hmf) rfl) ?_|refine yAa (yAy (nd:=⟨b,yk,yv,some ⟨d,0,none⟩,some ⟨e,0,none⟩,yh,ys⟩) rfl xS (g1 _ hm) rfl) ?_)|refine xst ?_|refine xsa ?_;intro _|refine xsb ?_ ?_<;>intro _<;>try omega|refine xsc ?_|refine xdr 3 yGb ?_|refine xdr 5 yGc ?_|refine xdr 13 yGd ?_|refine xsd ?_ ?_|exact Rech.nil|fail)
       all_goals (exact xdn ⟨(N2,p2),fun y hy=>g2 y (g1 y hy),t2⟩)
      |node vl vk vv vr vh vs=>
       have hfl':=hfl
       obtain ⟨q,ql,qr,rfl,hmq,-,-⟩:=hfl
       repeat' (first|refine yAj ?_;refine yAa (yAy (nd:=⟨f,wk,wv,some ⟨q,0,none⟩,fr,wh,ws⟩) rfl xS (hmf) rfl) ?_|refine xst ?_|refine xsa ?_;intro _|refine xsb ?_ ?_<;>intro _<;>try omega|refine xsc ?_|refine xdr 3 yGb ?_|refine xdr 5 yGc ?_|refine xdr 13 yGd ?_|refine xsd ?_ ?_|exact Rech.nil|fail)
       all_goals refine yAp ⟨(some ⟨q,0,none⟩,.node vl vk vv vr vh vs),hfl',(fun h=>by cases h),hfi⟩ (by show Tr.sz (.node vl vk vv vr vh vs)<Tr.sz (.node vl vk vv vr vh vs)+wr.sz+1;omega) xB (xN)
end
end Go.Proofs.YtlnbkbfblhofbaaGreatDoor
