/-
  BaR1, RdW3, TbW7, TbW8, RdW4.
-/
import Derived.Test.YtgipenahkmbelaaGreatDoorTFE
import Derived.Test.YtgipenahkmbelaaGreatDoorTBB
import Derived.Test.YtgipenahkmbelaaGreatDoorTCY
import Derived.Test.YtgipenahkmbelaaGreatDoorTDG
set_option maxHeartbeats 64000000
namespace Go.Proofs.YtgipenahkmbelaaGreatDoor
open Go Go.RowKit
abbrev plTEZ0:Pl:=(.op 0 (.op 1 (.op 2 .nil)))
abbrev plTEZ1:Pl:=(.op 0 (.op 1 (.op 2 (.op 3 (.op 4 (.op 5 (.op 6 (.op 7 (.op 8 (.op 9 (.op 10 (.op 11 (.op 12 (.op 13 (.op 14 (.op 15 (.op 16 .nil)))))))))))))))))
def rC (r:List UInt8 × List UInt8):List Value:=[strV r.1,strV r.2]
theorem zCc:EncOk rC 2:=⟨fun _=>rfl,fun x=>by unfold rC;exact xO,by omega⟩
end Go.Proofs.YtgipenahkmbelaaGreatDoor
namespace Go.Proofs.YtgipenahkmbelaaGreatDoor
open Go Go.RowKit
def txA (most:Nat) (l:List UInt8):Nat:=match ru l with
 |.bad _=>0
 |.ok n t=>if most<n then 0 else if t.length<n then (vu n).length else (vu n).length+n
def rdS:Rd (List UInt8)→List UInt8
 |.bad _=>[]
 |.ok y _=>y
def rdT:Rd (List UInt8)→Nat
 |.bad _=>0
 |.ok y _=>(tx y).length
theorem txA_ok {most:Nat} {l y t:List UInt8} (h:rtx most l=.ok y t):txA most l=(tx y).length:=by
 unfold rtx at h
 unfold txA
 split at h
 ·cases h
 rename_i n u hu
 rw [hu]
 dsimp only
 split at h
 ·cases h
 rename_i h1
 split at h
 ·cases h
 rename_i h2
 rw [if_neg h1,if_neg h2]
 cases h
 have e:(u.take n).length=n:=by rw [List.length_take];omega
 unfold tx
 rw [List.length_append,e]
theorem Ev_mkFunc2 {P:Program} {W:World} {n:Nat} {E:Env} {H:List SP} {f:FuncId} {x y:Operand} {u v:Value} (hx:Env.ev E x=some u) (hy:Env.ev E y=some v):Ev P W n E H (.makeFunc (.func f) #[] #[x,y]) (.func (.func f) #[] #[u,v]):=
 Ev_mkFunc (f:=.func f) (xs:=[]) (ys:=[x,y]) (us:=[]) (vs:=[u,v]) Evs.nil (.cons hx (.cons hy Evs.nil)) rfl
theorem upt_ok {most x:Nat} {t:List UInt8} (h:¬ most<x):uptE most (.ok x t)=0∧uptN most (.ok x t)=x∧uptL most (.ok x t)=(vu x).length:=⟨if_neg h,if_neg h,if_neg h⟩
theorem upt_big {most x:Nat} {t:List UInt8} (h:most<x):uptE most (.ok x t)=3∧uptN most (.ok x t)=0∧uptL most (.ok x t)=0:=⟨if_pos h,if_pos h,if_pos h⟩
theorem upt_good {most:Nat} {q:Rd Nat} {l:List UInt8} (hm:most≤9223372036854775807) (hq:ru l=q) (he:uptE most q=0):uptL most q=rdL q∧IntKind.i64.wrap ((rdN q:Nat):Int)=((uptN most q:Nat):Int):=by
 cases q with
 |bad e=>exact absurd he (by show e≠0;rcases ru_err hq with h|h <;> omega)
 |ok x t=>
  by_cases h:most<x
  ·rw [(upt_big h).1] at he;cases he
  ·obtain ⟨h1,h2,h3⟩:=upt_ok (t:=t) h
   rw [h2,h3]
   refine ⟨rfl,?_⟩
   show IntKind.i64.wrap ((x:Nat):Int)=_
   simp only [IntKind.wrap,IntKind.signed,IntKind.bits]
   simp
   omega
theorem upt_bad {most:Nat} {q:Rd Nat} (he:uptE most q≠0):uptL most q=0∧uptN most q=0:=by
 cases q with
 |bad e=>exact ⟨rfl,rfl⟩
 |ok x t=>
  by_cases h:most<x
  ·exact ⟨(upt_big h).2.2,(upt_big h).2.1⟩
  ·exact absurd (upt_ok h).1 he
section
variable {W:World} {F:Nat→Addr} {p:Nat} {s:List UInt8} {a:Nat}
theorem rupto_ct (most:Nat) (hm:most≤9223372036854775807) (ha:a≤s.length) (hs:s.length≤9223372036854775807) (e1:W.cell? ⟨10,0,none⟩=some (errV F 1)) (e2:W.cell? ⟨11,0,none⟩=some (errV F 2)) (e3:W.cell? ⟨12,0,none⟩=some (errV F 3)) (q:Rd Nat) (hq:ru (s.drop a)=q) :
 Ct Tryz.prog W 106 [.pointer (some ⟨p,0,none⟩),.int .i64 (most:Nat)] [rdP p s a] (fun _:Unit=>.tuple #[.int .i64 (uptN most q:Nat),errV F (uptE most q)]) (fun _=>[rdP p s (a+uptL most q)]):=by
 have cu:∀ br bm,Ct Tryz.prog W 139 [.pointer (some ⟨p,0,none⟩),.func (.func 140) #[] #[.pointer (some ⟨br,0,none⟩),.pointer (some ⟨bm,0,none⟩)]] [rdP p s a,zAh br [.pointer (some ⟨p,0,none⟩)] 158,zAh bm [.int .i64 (most:Nat)] 3] (fun _:Unit=>.tuple #[.int .i64 (uptN most q:Nat),errV F (uptE most q)])
  (fun _=>[rdP p s (a+uptL most q),zAh br [.pointer (some ⟨p,0,none⟩)] 158,zAh bm [.int .i64 (most:Nat)] 3]):=fun br bm=>by
  have cc:=uptoC_ct (W:=W) (F:=F) (p:=p) (s:=s) (a:=a) br bm most hm ha hs e1 e2 e3 q hq
  by_cases he:uptE most q=0
  ·obtain ⟨hl,hn⟩:=upt_good hm hq he
   rw [hn,he] at cc
   rw [he,hl]
   refine Ct.enter Tryz.func139 rfl Tryz.ntmps139 (by simp) (fun R=>?_)
   repeat' (first|(refine is_callV ?_;refine KJ_callV rfl xE rfl cc xP rfl (fun _=>?_))|refine xst ?_|(refine xsa ?_;intro _)|(refine xsb ?_ ?_ <;>intro _<;>try (exfalso;omega))|refine xsc ?_|fail)
   all_goals (exact xdn ())
  ·obtain ⟨hl,hn⟩:=upt_bad he
   have hne:=errNe (F:=F) he
   rw [hl,hn]
   refine Ct.enter Tryz.func139 rfl Tryz.ntmps139 (by simp) (fun R=>?_)
   repeat' (first|(refine is_callV ?_;refine KJ_callV rfl xE rfl cc xP rfl (fun _=>?_))|(refine zBz ?_;refine zAb (Ev_neqNil rfl hne) ?_)|refine xst ?_|(refine xsa ?_;intro _)|(refine xsb ?_ ?_ <;>intro _<;>try (exfalso;omega))|refine xsc ?_|fail)
   all_goals (exact xdn ())
 refine Ct.enter Tryz.func106 rfl Tryz.ntmps106 (by simp) (fun R=>?_)
 repeat' (first|(refine zBe ?_;refine zBb rfl xF rfl (fun g=>?_))|(refine zAd ?_;refine zAc xE (cu _ _) xP rfl (fun _=>?_))|(refine ek_mkFunc ?_;refine zAb (Ev_mkFunc2 rfl rfl) ?_)|refine xst ?_|(refine xsa ?_;intro _)|(refine xsb ?_ ?_ <;>intro _<;>try (exfalso;omega))|refine xsc ?_|fail)
 all_goals (exact xdn ())
end
end Go.Proofs.YtgipenahkmbelaaGreatDoor
namespace Go.Proofs.YtgipenahkmbelaaGreatDoor
open Go Go.RowKit
def TbOk (N:List Nd) (a:Option Addr) (r:Rows):Prop:=∃ t,TrAt N a t∧t.Ok∧t.rows=r∧RisR r
theorem TbOk.mono {N N':List Nd} {a:Option Addr} {r:Rows} (h:TbOk N a r) (hm:∀ x ∈ N,x ∈ N'):TbOk N' a r:=by
 obtain ⟨t,h1,h2,h3,h4⟩:=h
 exact ⟨t,h1.mono hm,h2,h3,h4⟩
theorem TbOk.ris {N:List Nd} {a:Option Addr} {r:Rows} (h:TbOk N a r):RisR r:=by obtain ⟨t,-,-,-,h4⟩:=h;exact h4
theorem TbOk.nil (N:List Nd):TbOk N none []:=⟨.nil,rfl,trivial,rfl,List.Pairwise.nil⟩
abbrev TbQ (N:List Nd) (r:Rows):Type:={x:List Nd × Option Addr × Int//(∀ y ∈ N,y ∈ x.1)∧TbOk x.1 x.2.1 r}
abbrev tbP (p:Nat) (a:Option Addr) (b:Int):SP:=zAh p [.pointer a,.int .i64 b] 121
theorem frm_nil:∀ t:Tr,t.frm []=t.rows
 |.nil=>rfl
 |.node l k v r _ _=>by rw [frm_hi (by cases k <;> rfl),frm_nil l,frm_nil r];rfl
theorem KJ_absurdT {W:World} {n:Nat} {k:KK} {E:Env} {H R:List SP} (hs:Sel (factP False) H R):KJ W n k E H:=⟨fun _ _ _ s=>(s.left.fact hs).elim⟩
section
variable {W:World} {N:List Nd} {a:Option Addr} {r:Rows} {p:Nat} {b:Int} {k v:List UInt8}
theorem tnew_ct:Ct Tryz.prog W 70 [] [] (fun p:Nat=>.pointer (some ⟨p,0,none⟩)) (fun p=>[tbP p none 0]):=by
 refine Ct.enter Tryz.func70 rfl Tryz.ntmps70 (by simp) (fun R=>?_)
 repeat' (first|(refine zBe ?_;refine zBb rfl xF rfl (fun g=>?_))|(refine zAy ?_;refine zAb (zAz xV xW) ?_)|refine xst ?_|(refine xsa ?_;intro _)|(refine xsb ?_ ?_ <;>intro _<;>try (exfalso;omega))|refine xsc ?_|fail)
 all_goals (exact xdn g)
theorem tget_ct (hT:TbOk N a r) (x:List UInt8) :
 Ct Tryz.prog W 43 [.pointer (some ⟨p,0,none⟩),strV x] [tbP p a b,arP N] (fun _:Unit=>.tuple #[strV ((lk r x).getD []),.bool (lk r x).isSome]) (fun _=>[tbP p a b,arP N]):=by
 obtain ⟨t,h1,h2,rfl,h4⟩:=hT
 have cg:=nget_ct (W:=W) h1 x
 rw [Tr.get_rows h4] at cg
 refine Ct.enter Tryz.func43 rfl Tryz.ntmps43 (by simp) (fun R=>?_)
 repeat' (first|(refine zAd ?_;refine zAc xE cg xP rfl (fun _=>?_))|refine xst ?_|(refine xsa ?_;intro _)|(refine xsb ?_ ?_ <;>intro _<;>try (exfalso;omega))|refine xsc ?_|fail)
 all_goals (exact xdn ())
theorem tlen_ct (hT:TbOk N a r):Ct Tryz.prog W 86 [.pointer (some ⟨p,0,none⟩)] [tbP p a b,arP N] (fun _:Unit=>.int .i64 (r.length:Nat)) (fun _=>[tbP p a b,arP N]):=by
 obtain ⟨t,h1,h2,rfl,h4⟩:=hT
 have cg:=ncount_ct (W:=W) h1
 rw [Tr.cnt_rows h2] at cg
 refine Ct.enter Tryz.func86 rfl Tryz.ntmps86 (by simp) (fun R=>?_)
 repeat' (first|(refine zAd ?_;refine zAc xE cg xP rfl (fun _=>?_))|refine xst ?_|(refine xsa ?_;intro _)|(refine xsb ?_ ?_ <;>intro _<;>try (exfalso;omega))|refine xsc ?_|fail)
 all_goals (exact xdn ())
theorem tput_ct (hT:TbOk N a r) (hl:r.length≤288230376151711744) :
 Ct Tryz.prog W 39 [.pointer (some ⟨p,0,none⟩),strV k,strV v] [tbP p a b,arP N] (fun _:TbQ N (putR r k v)=>.bool (lk r k).isSome) (fun x=>[tbP p x.1.2.1 x.1.2.2,arP x.1.1]):=by
 obtain ⟨t,h1,h2,rfl,h4⟩:=hT
 have cg:=nget_ct (W:=W) h1 k
 rw [Tr.get_rows h4] at cg
 have cp:=nput_ct (W:=W) k v t h1 h2 h4 (by rw [Tr.cnt_rows h2];exact hl)
 obtain ⟨q1,q2,-,-⟩:=Tr.put_ok h2 h4 k v
 have q3:=putR_ris h4 k v
 cases hk:lk t.rows k with
 |none=>
  rw [hk] at cg
  refine Ct.enter Tryz.func39 rfl Tryz.ntmps39 (by simp) (fun R=>?_)
  repeat' (first|(refine zAd ?_;first|(refine zAc xE cp xP rfl (fun x=>?_);obtain ⟨⟨N1,p1⟩,g1,t1⟩:=x;dsimp only at g1 t1 ⊢)|(refine zAc xE cg xP rfl (fun _=>?_)))|refine xst ?_|(refine xsa ?_;intro _)|(refine xsb ?_ ?_ <;>intro _<;>try (exfalso;omega))|refine xsc ?_|fail)
  all_goals (exact xdn ⟨(N1,p1,_),g1,_,t1,q1,q2,q3⟩)
 |some old=>
  rw [hk] at cg
  refine Ct.enter Tryz.func39 rfl Tryz.ntmps39 (by simp) (fun R=>?_)
  repeat' (first|(refine zAd ?_;first|(refine zAc xE cp xP rfl (fun x=>?_);obtain ⟨⟨N1,p1⟩,g1,t1⟩:=x;dsimp only at g1 t1 ⊢)|(refine zAc xE cg xP rfl (fun _=>?_)))|refine xst ?_|(refine xsa ?_;intro _)|(refine xsb ?_ ?_ <;>intro _<;>try (exfalso;omega))|refine xsc ?_|fail)
  all_goals (exact xdn ⟨(N1,p1,_),g1,_,t1,q1,q2,q3⟩)
theorem tdel_ct (hT:TbOk N a r) (hl:r.length≤288230376151711744) :
 Ct Tryz.prog W 41 [.pointer (some ⟨p,0,none⟩),strV k] [tbP p a b,arP N] (fun _:TbQ N (mdel r k)=>.bool (lk r k).isSome) (fun x=>[tbP p x.1.2.1 x.1.2.2,arP x.1.1]):=by
 obtain ⟨t,h1,h2,rfl,h4⟩:=hT
 have cg:=nget_ct (W:=W) h1 k
 rw [Tr.get_rows h4] at cg
 have q3:=mdel_ris h4 k
 cases hk:lk t.rows k with
 |none=>
  rw [hk] at cg
  have hm:=mdel_none hk
  refine Ct.enter Tryz.func41 rfl Tryz.ntmps41 (by simp) (fun R=>?_)
  repeat' (first|(refine zAd ?_;refine zAc xE cg xP rfl (fun _=>?_))|refine xst ?_|(refine xsa ?_;intro _)|(refine xsb ?_ ?_ <;>intro _<;>try (exfalso;omega))|refine xsc ?_|fail)
  all_goals (exact xdn ⟨(N,a,_),fun y hy=>hy,t,h1,h2,hm.symm,q3⟩)
 |some old=>
  rw [hk] at cg
  have hs:(lk t.rows k).isSome=true:=by rw [hk];rfl
  have cp:=remove_ct (W:=W) t k h1 h2 h4 (by rw [Tr.cnt_rows h2];exact hl) hs
  obtain ⟨q1,q2,-,-⟩:=Tr.remove_ok h2 h4 k hs
  refine Ct.enter Tryz.func41 rfl Tryz.ntmps41 (by simp) (fun R=>?_)
  repeat' (first|(refine zAd ?_;first|(refine zAc xE cp xP rfl (fun x=>?_);obtain ⟨⟨N1,p1⟩,g1,t1⟩:=x;dsimp only at g1 t1 ⊢)|(refine zAc xE cg xP rfl (fun _=>?_)))|refine xst ?_|(refine xsa ?_;intro _)|(refine xsb ?_ ?_ <;>intro _<;>try (exfalso;omega))|refine xsc ?_|fail)
  all_goals (exact xdn ⟨(N1,p1,_),g1,_,t1,q1,q2,q3⟩)
theorem tfrom_ct (x:List UInt8):Ct Tryz.prog W 87 [.pointer (some ⟨p,0,none⟩),strV x] [tbP p a b] (fun x:Nat × Nat=>.func (.func 128) #[] #[.pointer (some ⟨x.1,0,none⟩),.pointer (some ⟨x.2,0,none⟩)])
 (fun z=>[tbP p a b,zAh z.1 [.pointer a] 119,zAh z.2 [strV x] 9]):=by
 refine Ct.enter Tryz.func87 rfl Tryz.ntmps87 (by simp) (fun R=>?_)
 repeat' (first|(refine zBc ?_;refine zAu rfl (fun gr=>?_))|(refine zBe ?_;refine zBb rfl xF rfl (fun gl=>?_))|(refine ek_mkFunc ?_;refine zAb (Ev_mkFunc2 rfl rfl) ?_)|refine xst ?_|(refine xsa ?_;intro _)|(refine xsb ?_ ?_ <;>intro _<;>try (exfalso;omega))|refine xsc ?_|fail)
 all_goals (exact xdn (gr,gl))
theorem trows_ct (hT:TbOk N a r) (hl:r.length*32≤140737488355328) :
 Ct Tryz.prog W 57 [.pointer (some ⟨p,0,none⟩)] [tbP p a b,arP N] (fun x:Option Addr × Nat=>.slice x.1 r.length x.2) (fun x=>[tbP p a b,arP N,lsP rC 36 2 (.slice x.1 r.length x.2) r]):=by
 have cl:=tlen_ct (W:=W) (p:=p) (b:=b) hT
 have cf:=tfrom_ct (W:=W) (p:=p) (a:=a) (b:=b) []
 obtain ⟨t,h1,h2,ht,h4⟩:=hT
 have hL:r=t.frm []:=by rw [frm_nil,ht]
 refine Ct.enter Tryz.func57 rfl Tryz.ntmps57 (by simp) (fun R=>?_)
 repeat' (first|(refine zBc ?_;refine zAu rfl (fun g3=>?_))|(refine zAd ?_;first|(refine zAc xE cf xP rfl (fun z=>?_);obtain ⟨gr,gl⟩:=z)|(refine zAc xE cl xP rfl (fun _=>?_)))|(refine is_mkSlice ?_;refine KJ_make0 (m:=r.length) (bytes:=32) rfl rfl rfl (by omega) (by omega) rfl (fun gm cm=>?_))|refine xst ?_|(refine xsa ?_;intro _)|(refine xsb ?_ ?_ <;>intro _<;>try (exfalso;omega))|refine xsc ?_|fail)
 obtain ⟨F,hF⟩:∃ F:Nat→Option Addr × Nat→List SP,F=fun i x=>[zAh g3 [.slice x.1 (r.take i).length x.2] 22,lsP rC 36 2 (.slice x.1 (r.take i).length x.2) (r.take i)]:=⟨_,rfl⟩
 have hFi:∀ i x,F i x=[zAh g3 [.slice x.1 (r.take i).length x.2] 22,lsP rC 36 2 (.slice x.1 (r.take i).length x.2) (r.take i)]:=fun i x=>by rw [hF]
 clear hF
 refine KJ.packs (tag:=52) (key:=g3) (F:=F 0) (some ⟨gm,0,none⟩,cm) (by rw [hFi];exact xP) ?_
 refine KJ_rangeFrom (gr:=gr) (gl:=gl) (L:=r) rfl rfl h1 hL rfl (by decide) (fun i=>packP 52 g3 (F i)) (fun i=>factP False) .ret xP (fun l i s hs R'=>?_) ?_ (fun i hi=>?_)
 ·have hlt:=(List.getElem?_eq_some_iff.1 hs).1
  dsimp only [Env.ofPs]
  refine KJ.unpack_at (F:=F i) xS (fun x=>?_)
  rw [hFi]
  have em:r.take i++[s]=r.take (i+1):=by rw [List.take_add_one,hs];rfl
  have b1:((r.take i).length+1)*32≤140737488355328:=by rw [List.length_take];omega
  have b2:(r.take i).length+1≤9223372036854775807:=by omega
  repeat' (first|(refine is_begin ?_;refine KJ_begin xS ?_)|(refine zBq ?_;refine zCe (a:=s) zCc rfl rfl rfl xS xS b1 b2 rfl (fun g5 c5=>?_))|(refine zBi ?_;refine zBt rfl xF (by rfl) (by omega) rfl (fun gb=>?_))|(refine zAy ?_;refine zAb (zAz xV xW) ?_)|refine xst ?_|(refine xsa ?_;intro _)|(refine xsb ?_ ?_ <;>intro _<;>try (exfalso;omega))|refine xsc ?_|fail)
  rw [em]
  refine KJ.packs (tag:=52) (key:=g3) (F:=F (i+1)) (some ⟨g5,0,none⟩,c5) (by rw [hFi];exact xP) ?_
  exact KJ_round_t xS (xN)
 ·refine KJ.unpack_at (F:=F r.length) xS (fun x=>?_)
  rw [hFi,List.take_length]
  repeat' (first|refine xst ?_|(refine xsa ?_;intro _)|(refine xsb ?_ ?_ <;>intro _<;>try (exfalso;omega))|refine xsc ?_|fail)
  all_goals (exact xdn x)
 ·exact KJ_absurdT xS
end
end Go.Proofs.YtgipenahkmbelaaGreatDoor
namespace Go.Proofs.YtgipenahkmbelaaGreatDoor
open Go Go.RowKit
def ofR (l:Rows):Rows:=l.foldl (fun r p=>putR r p.1 p.2) []
theorem ofR_next {l:Rows} {i:Nat} {p:List UInt8 × List UInt8} (h:l[i]? = some p):ofR (l.take (i+1))=putR (ofR (l.take i)) p.1 p.2:=by
 unfold ofR
 rw [List.take_add_one,h,List.foldl_append];rfl
theorem ofR_len:∀ (l r:Rows),(l.foldl (fun r p=>putR r p.1 p.2) r).length≤r.length+l.length
 |[],r=>by simp
 |p::l,r=>by
  have h1:=ofR_len l (putR r p.1 p.2)
  have h2:=putR_len r p.1 p.2
  rw [List.foldl_cons,List.length_cons];omega
theorem apply1_len (r:Rows) (o:BOp):(apply1 r o).length≤r.length+1:=by
 unfold apply1
 split
 ·have:(mdel r o.key).length≤r.length:=List.length_filter_le _ _
  omega
 ·exact putR_len _ _ _
theorem applyB_len:∀ (ops:List BOp) (r:Rows),(zAf r ops).length≤r.length+ops.length
 |[],r=>by simp [zAf]
 |o::ops,r=>by
  have h1:=applyB_len ops (apply1 r o)
  have h2:=apply1_len r o
  have e:zAf r (o::ops)=zAf (apply1 r o) ops:=rfl
  rw [e,List.length_cons];omega
theorem applyB_next {r:Rows} {ops:List BOp} {i:Nat} {o:BOp} (h:ops[i]? = some o):zAf r (ops.take (i+1))=apply1 (zAf r (ops.take i)) o:=by
 unfold zAf
 rw [List.take_add_one,h,List.foldl_append];rfl
abbrev TbN (N:List Nd) (r:Rows):Type:={x:Nat × List Nd × Option Addr × Int//(∀ y ∈ N,y ∈ x.2.1)∧TbOk x.2.1 x.2.2.1 r}
section
variable {W:World}
theorem tof_ct (N:List Nd) (A:SP) (a:Option Addr) (c:Nat) (l:Rows) (hL:Lv W rC 2 A a l) (hl:l.length≤144115188075855872) :
 Ct Tryz.prog W 36 [.slice a l.length c] [A,arP N] (fun x:TbN N (ofR l)=>.pointer (some ⟨x.1.1,0,none⟩)) (fun x=>[A,tbP x.1.1 x.1.2.2.1 x.1.2.2.2,arP x.1.2.1]):=by
 have cn:=tnew_ct (W:=W)
 refine Ct.enter Tryz.func36 rfl Tryz.ntmps36 (by simp) (fun R=>?_)
 repeat' (first|(refine zAd ?_;refine zAc xE cn xP rfl (fun p=>?_))|refine xst ?_|(refine xsa ?_;intro _)|(refine xsb ?_ ?_ <;>intro _<;>try (exfalso;omega))|refine xsc ?_|fail)
 refine zBv (fun x:{x:Nat × List Nd × Option Addr × Int//x.1≤l.length∧(∀ y ∈ N,y ∈ x.2.1)∧TbOk x.2.1 x.2.2.1 (ofR (l.take x.1))}=>[(3,.pointer (some ⟨p,0,none⟩)),(7,.slice a l.length c),(8,.int .i64 (l.length:Nat)),(9,.int .i64 (x.1.1:Nat))])
  (fun x=>[A,tbP p x.1.2.2.1 x.1.2.2.2,arP x.1.2.1]++R) (fun x=>l.length-x.1.1) ⟨(0,N,none,0),Nat.zero_le _,fun y hy=>hy,TbOk.nil N⟩ xB (xN) (fun ⟨(i,N1,a1,b1),hi,hN,hT⟩=>?_)
 dsimp only at hi hN hT ⊢
 by_cases hlt:i<l.length
 ·have ql:decide ((i:Int)<(l.length:Nat))=true:=decide_eq_true (by omega)
  obtain ⟨o,ho⟩:∃ s,l[i]? = some s:=⟨_,List.getElem?_eq_getElem hlt⟩
  refine KJ.lvSome hL xS (by omega) (fun b of hab=>?_)
  subst hab
  have hoff:of+Int.toNat (i:Int)*2=of+i*2:=by simp
  have hlen:=ofR_len (l.take i) []
  have cp:=tput_ct (W:=W) (p:=p) (b:=b1) (k:=o.1) (v:=o.2) hT (by unfold ofR;rw [List.length_take,List.length_nil] at hlen;omega)
  rw [← ofR_next ho] at cp
  repeat' (first|(refine zBc ?_;refine zAu rfl (fun g5=>?_))|(refine zAd ?_;refine zAc xE cp xP rfl (fun x=>?_);obtain ⟨⟨N2,a2,b2⟩,g2,t2⟩:=x;dsimp only at g2 t2 ⊢)|(refine zAm ?_;refine zAb (zBn zCc hL rfl rfl xS hoff ho) ?_)|(refine zBh ?_;refine zAb (zAi (r:=((i+1:Nat):Int)) rfl rfl (by omega) (by omega)) ?_)|(refine zAq ?_;refine zAb (zAe rfl rfl ql) ?_)|refine xst ?_|(refine xsa ?_;intro _)|(refine xsb ?_ ?_ <;>intro _<;>try (exfalso;omega))|refine xsc ?_|fail)
  all_goals refine zAv ⟨(i+1,N2,a2,b2),hlt,fun y hy=>g2 y (hN y hy),t2⟩ (by show l.length-(i+1)<l.length-i;omega) xB (xN)
 have ql:decide ((i:Int)<(l.length:Nat))=false:=decide_eq_false (by omega)
 obtain rfl:i=l.length:=by omega
 rw [List.take_length] at hT
 repeat' (first|(refine zAq ?_;refine zAb (zAe rfl rfl ql) ?_)|refine xst ?_|(refine xsa ?_;intro _)|(refine xsb ?_ ?_ <;>intro _<;>try (exfalso;omega))|refine xsc ?_|fail)
 all_goals (exact xdn ⟨(p,N1,a1,b1),hN,hT⟩)
theorem bapply_ct {N:List Nd} {ta:Option Addr} {r:Rows} {p:Nat} {tb:Int} (hT:TbOk N ta r) (A:SP) (a:Option Addr) (c:Nat) (ops:List BOp) (hL:Lv W opC 3 A a ops) (hl:r.length+ops.length≤144115188075855872) :
 Ct Tryz.prog W 63 [.pointer (some ⟨p,0,none⟩),.slice a ops.length c] [A,tbP p ta tb,arP N] (fun _:TbQ N (zAf r ops)=>.tuple #[]) (fun x=>[A,tbP p x.1.2.1 x.1.2.2,arP x.1.1]):=by
 refine Ct.enter Tryz.func63 rfl Tryz.ntmps63 (by simp) (fun R=>?_)
 repeat' (first|refine xst ?_|(refine xsa ?_;intro _)|(refine xsb ?_ ?_ <;>intro _<;>try (exfalso;omega))|refine xsc ?_|fail)
 refine zBv (fun x:{x:Nat × List Nd × Option Addr × Int//x.1≤ops.length∧(∀ y ∈ N,y ∈ x.2.1)∧TbOk x.2.1 x.2.2.1 (zAf r (ops.take x.1))}=>[(0,.pointer (some ⟨p,0,none⟩)),(6,.slice a ops.length c),(7,.int .i64 (ops.length:Nat)),(8,.int .i64 (x.1.1:Nat))])
  (fun x=>[A,tbP p x.1.2.2.1 x.1.2.2.2,arP x.1.2.1]++R) (fun x=>ops.length-x.1.1) ⟨(0,N,ta,tb),Nat.zero_le _,fun y hy=>hy,hT⟩ xB (xN) (fun ⟨(i,N1,a1,b1),hi,hN,hT⟩=>?_)
 dsimp only at hi hN hT ⊢
 by_cases hlt:i<ops.length
 ·have ql:decide ((i:Int)<(ops.length:Nat))=true:=decide_eq_true (by omega)
  obtain ⟨o,ho⟩:∃ s,ops[i]? = some s:=⟨_,List.getElem?_eq_getElem hlt⟩
  refine KJ.lvSome hL xS (by omega) (fun b of hab=>?_)
  subst hab
  have hoff:of+Int.toNat (i:Int)*3=of+i*3:=by simp
  have hlen:=applyB_len (ops.take i) r
  rw [List.length_take] at hlen
  have hnx:=applyB_next (r:=r) ho
  obtain ⟨del,key,val⟩:=o
  cases del with
  |true=>
   have cd:=tdel_ct (W:=W) (p:=p) (b:=b1) (k:=key) hT (by omega)
   rw [show mdel (zAf r (ops.take i)) key=zAf r (ops.take (i+1)) from hnx.symm] at cd
   repeat' (first|(refine zBc ?_;refine zAu rfl (fun g5=>?_))|(refine zAd ?_;refine zAc xE cd xP rfl (fun x=>?_);obtain ⟨⟨N2,a2,b2⟩,g2,t2⟩:=x;dsimp only at g2 t2 ⊢)|(refine zAm ?_;refine zAb (zBn zCa hL rfl rfl xS hoff ho) ?_)|(refine zBh ?_;refine zAb (zAi (r:=((i+1:Nat):Int)) rfl rfl (by omega) (by omega)) ?_)|(refine zAq ?_;refine zAb (zAe rfl rfl ql) ?_)|refine xst ?_|(refine xsa ?_;intro _)|(refine xsb ?_ ?_ <;>intro _<;>try (exfalso;omega))|refine xsc ?_|fail)
   all_goals refine zAv ⟨(i+1,N2,a2,b2),hlt,fun y hy=>g2 y (hN y hy),t2⟩ (by show ops.length-(i+1)<ops.length-i;omega) xB (xN)
  |false=>
   have cp:=tput_ct (W:=W) (p:=p) (b:=b1) (k:=key) (v:=val) hT (by omega)
   rw [show putR (zAf r (ops.take i)) key val=zAf r (ops.take (i+1)) from hnx.symm] at cp
   repeat' (first|(refine zBc ?_;refine zAu rfl (fun g5=>?_))|(refine zAd ?_;refine zAc xE cp xP rfl (fun x=>?_);obtain ⟨⟨N2,a2,b2⟩,g2,t2⟩:=x;dsimp only at g2 t2 ⊢)|(refine zAm ?_;refine zAb (zBn zCa hL rfl rfl xS hoff ho) ?_)|(refine zBh ?_;refine zAb (zAi (r:=((i+1:Nat):Int)) rfl rfl (by omega) (by omega)) ?_)|(refine zAq ?_;refine zAb (zAe rfl rfl ql) ?_)|refine xst ?_|(refine xsa ?_;intro _)|(refine xsb ?_ ?_ <;>intro _<;>try (exfalso;omega))|refine xsc ?_|fail)
   all_goals refine zAv ⟨(i+1,N2,a2,b2),hlt,fun y hy=>g2 y (hN y hy),t2⟩ (by show ops.length-(i+1)<ops.length-i;omega) xB (xN)
 have ql:decide ((i:Int)<(ops.length:Nat))=false:=decide_eq_false (by omega)
 obtain rfl:i=ops.length:=by omega
 rw [List.take_length] at hT
 repeat' (first|(refine zAq ?_;refine zAb (zAe rfl rfl ql) ?_)|refine xst ?_|(refine xsa ?_;intro _)|(refine xsb ?_ ?_ <;>intro _<;>try (exfalso;omega))|refine xsc ?_|fail)
 all_goals (exact xdn ⟨(N1,a1,b1),hN,hT⟩)
end
end Go.Proofs.YtgipenahkmbelaaGreatDoor
namespace Go.Proofs.YtgipenahkmbelaaGreatDoor
open Go Go.RowKit
theorem Ev_sliceStr_t {P:Program} {W:World} {n:Nat} {E:Env} {H:List SP} {t:TypeId} {x y z:Operand} {l r:List UInt8} {i j:Int} {ki kj:IntKind} (hx:Env.ev E x=some (strV l)) (hy:Env.ev E y=some (.int ki i)) (hz:Env.ev E z=some (.int kj j)) [hu:UIs P t .string] (hb:0≤i∧i≤j∧j≤l.length) (h:(l.take j.toNat).drop i.toNat=r):Ev P W n E H (.slice t x (some y) (some z) none) (strV r):=by
 subst h;exact Ev_sliceStr hx hy hz hb
theorem rtx_cases (most:Nat) (l:List UInt8):(∃ e,ru l=.bad e∧rtx most l=.bad e∧txA most l=0)∨(∃ n t,ru l=.ok n t∧most<n∧rtx most l=.bad 3∧txA most l=0)∨(∃ n t,ru l=.ok n t∧¬ most<n∧t.length<n∧rtx most l=.bad 1∧txA most l=(vu n).length)∨(∃ n t,ru l=.ok n t∧¬ most<n∧¬ t.length<n∧rtx most l=.ok (t.take n) (t.drop n)∧txA most l=(vu n).length+n):=by
 unfold rtx txA
 cases h:ru l with
 |bad e=>exact .inl ⟨e,rfl,rfl,rfl⟩
 |ok n t=>
  dsimp only
  by_cases h1:most<n
  ·rw [if_pos h1,if_pos h1];exact .inr (.inl ⟨n,t,rfl,h1,rfl,rfl⟩)
  ·rw [if_neg h1,if_neg h1]
   by_cases h2:t.length<n
   ·rw [if_pos h2,if_pos h2];exact .inr (.inr (.inl ⟨n,t,rfl,h1,h2,rfl,rfl⟩))
   ·rw [if_neg h2,if_neg h2];exact .inr (.inr (.inr ⟨n,t,rfl,h1,h2,rfl,rfl⟩))
section
variable {W:World} {F:Nat→Addr} {p:Nat} {s:List UInt8} {a:Nat}
theorem textC_ct (br bm most:Nat) (hm:most≤9223372036854775807) (ha:a≤s.length) (hs:s.length≤9223372036854775807) (e1:W.cell? ⟨10,0,none⟩=some (errV F 1)) (e2:W.cell? ⟨11,0,none⟩=some (errV F 2)) (e3:W.cell? ⟨12,0,none⟩=some (errV F 3)) :
 Ct Tryz.prog W 181 [.pointer (some ⟨br,0,none⟩),.pointer (some ⟨bm,0,none⟩)] [rdP p s a,zAh br [.pointer (some ⟨p,0,none⟩)] 158,zAh bm [.int .i64 (most:Nat)] 3] (fun _:Unit=>.tuple #[strV (rdS (rtx most (s.drop a))),errV F (rdE (rtx most (s.drop a)))])
  (fun _=>[rdP p s (a+txA most (s.drop a)),zAh br [.pointer (some ⟨p,0,none⟩)] 158,zAh bm [.int .i64 (most:Nat)] 3]):=by
 have cu0:=fun q hq=>rupto_ct (W:=W) (F:=F) (p:=p) (s:=s) (a:=a) most hm ha hs e1 e2 e3 q hq
 rcases rtx_cases most (s.drop a) with ⟨e,h1,h2,h3⟩|⟨n,t,h1,h4,h2,h3⟩|⟨n,t,h1,h4,h5,h2,h3⟩|⟨n,t,h1,h4,h5,h2,h3⟩
 ·have cu:=cu0 _ h1
  have hne:=errNe (F:=F) (e:=e) (by rcases ru_err h1 with h|h <;> omega)
  rw [show uptL most (.bad e)=0 from rfl,show uptE most (.bad e)=e from rfl,show uptN most (.bad e)=0 from rfl,Nat.add_zero] at cu
  rw [h2,h3,Nat.add_zero]
  refine Ct.enter Tryz.func181 rfl Tryz.ntmps181 (by simp) (fun R=>?_)
  repeat' (first|(refine zAd ?_;refine zAc xE cu xP rfl (fun _=>?_))|(refine zBz ?_;refine zAb (Ev_neqNil rfl hne) ?_)|refine xst ?_|(refine xsa ?_;intro _)|(refine xsb ?_ ?_ <;>intro _<;>try (exfalso;omega))|refine xsc ?_|(refine zAa (id:=5) plTEZ0 (by kernel_rfl) (by kernel_rfl) ?_)|(refine zAa (id:=7) plTEZ1 (by kernel_rfl) (by kernel_rfl) ?_)|refine zAp ?_ ?_|refine zAn rfl rfl rfl rfl rfl ?_ ?_|refine zAg ?_ ?_|exact Rech.nil|fail)
  all_goals (exact xdn ())
 ·have cu:=cu0 _ h1
  obtain ⟨k1,k2,k3⟩:=upt_big (t:=t) h4
  rw [k1,k2,k3,Nat.add_zero] at cu
  rw [h2,h3,Nat.add_zero]
  refine Ct.enter Tryz.func181 rfl Tryz.ntmps181 (by simp) (fun R=>?_)
  repeat' (first|(refine zAd ?_;refine zAc xE cu xP rfl (fun _=>?_))|refine xst ?_|(refine xsa ?_;intro _)|(refine xsb ?_ ?_ <;>intro _<;>try (exfalso;omega))|refine xsc ?_|(refine zAa (id:=5) plTEZ0 (by kernel_rfl) (by kernel_rfl) ?_)|(refine zAa (id:=7) plTEZ1 (by kernel_rfl) (by kernel_rfl) ?_)|refine zAp ?_ ?_|refine zAn rfl rfl rfl rfl rfl ?_ ?_|refine zAg ?_ ?_|exact Rech.nil|fail)
  all_goals (exact xdn ())
 ·have cu:=cu0 _ h1
  obtain ⟨k1,k2,k3⟩:=upt_ok (t:=t) h4
  rw [k1,k2,k3] at cu
  rw [h2,h3]
  have hf:=ru_fit h1
  have ht:=congrArg List.length (ru_drop h1)
  rw [List.length_drop] at ht
  obtain ⟨a1,ha1⟩:∃ a1,a1=a+(vu n).length:=⟨_,rfl⟩
  rw [← ha1] at cu hf ht ⊢
  have cl:=rleft_ct (W:=W) (p:=p) (s:=s) (a:=a1) hf (by omega)
  have ql:decide (((s.length-a1:Nat):Int)<((n:Nat):Int))=true:=decide_eq_true (by omega)
  refine Ct.enter Tryz.func181 rfl Tryz.ntmps181 (by simp) (fun R=>?_)
  repeat' (first|(refine zAd ?_;first|(refine zAc xE cl xP rfl (fun _=>?_))|(refine zAc xE cu xP rfl (fun _=>?_)))|(refine zAm ?_;refine zAb (zAt rfl e1) ?_)|(refine zAq ?_;refine zAb (zAe rfl rfl ql) ?_)|refine xst ?_|(refine xsa ?_;intro _)|(refine xsb ?_ ?_ <;>intro _<;>try (exfalso;omega))|refine xsc ?_|(refine zAa (id:=5) plTEZ0 (by kernel_rfl) (by kernel_rfl) ?_)|(refine zAa (id:=7) plTEZ1 (by kernel_rfl) (by kernel_rfl) ?_)|refine zAp ?_ ?_|refine zAn rfl rfl rfl rfl rfl ?_ ?_|refine zAg ?_ ?_|exact Rech.nil|fail)
  all_goals (exact xdn ())
 ·have cu:=cu0 _ h1
  obtain ⟨k1,k2,k3⟩:=upt_ok (t:=t) h4
  rw [k1,k2,k3] at cu
  rw [h2,h3,← Nat.add_assoc]
  have hf:=ru_fit h1
  have htd:=ru_drop h1
  have ht:=congrArg List.length htd
  rw [List.length_drop] at ht
  obtain ⟨a1,ha1⟩:∃ a1,a1=a+(vu n).length:=⟨_,rfl⟩
  rw [← ha1] at cu hf ht htd ⊢
  have cl:=rleft_ct (W:=W) (p:=p) (s:=s) (a:=a1) hf (by omega)
  have ql:decide (((s.length-a1:Nat):Int)<((n:Nat):Int))=false:=decide_eq_false (by omega)
  have hsl:(s.take (Int.toNat ((a1+n:Nat):Int))).drop (Int.toNat ((a1:Nat):Int))=t.take n:=by
   rw [Int.toNat_natCast,Int.toNat_natCast,htd,List.drop_take]
   congr 1;omega
  refine Ct.enter Tryz.func181 rfl Tryz.ntmps181 (by simp) (fun R=>?_)
  repeat' (first|(refine zAd ?_;first|(refine zAc xE cl xP rfl (fun _=>?_))|(refine zAc xE cu xP rfl (fun _=>?_)))|(refine zCg ?_;refine zAb (Ev_sliceStr_t rfl rfl rfl (by omega) hsl) ?_)|(refine zBh ?_;refine zAb (zAi (r:=((a1+n:Nat):Int)) rfl rfl (by omega) (by omega)) ?_)|(refine ek_sub ?_;refine zAb (Ev_subI_v (r:=((a1:Nat):Int)) rfl rfl (by omega) (by omega)) ?_)|(refine zAq ?_;refine zAb (zAe rfl rfl ql) ?_)|refine xst ?_|(refine xsa ?_;intro _)|(refine xsb ?_ ?_ <;>intro _<;>try (exfalso;omega))|refine xsc ?_|(refine zAa (id:=5) plTEZ0 (by kernel_rfl) (by kernel_rfl) ?_)|(refine zAa (id:=7) plTEZ1 (by kernel_rfl) (by kernel_rfl) ?_)|refine zAp ?_ ?_|refine zAn rfl rfl rfl rfl rfl ?_ ?_|refine zAg ?_ ?_|exact Rech.nil|fail)
  all_goals (exact xdn ())
theorem rtext_ct (most:Nat) (hm:most≤9223372036854775807) (ha:a≤s.length) (hs:s.length≤9223372036854775807) (e1:W.cell? ⟨10,0,none⟩=some (errV F 1)) (e2:W.cell? ⟨11,0,none⟩=some (errV F 2)) (e3:W.cell? ⟨12,0,none⟩=some (errV F 3)) (q:Rd (List UInt8)) (hq:rtx most (s.drop a)=q) :
 Ct Tryz.prog W 144 [.pointer (some ⟨p,0,none⟩),.int .i64 (most:Nat)] [rdP p s a] (fun _:Unit=>.tuple #[strV (rdS q),errV F (rdE q)]) (fun _=>[rdP p s (a+rdT q)]):=by
 have cu:∀ br bm,Ct Tryz.prog W 180 [.pointer (some ⟨p,0,none⟩),.func (.func 181) #[] #[.pointer (some ⟨br,0,none⟩),.pointer (some ⟨bm,0,none⟩)]] [rdP p s a,zAh br [.pointer (some ⟨p,0,none⟩)] 158,zAh bm [.int .i64 (most:Nat)] 3] (fun _:Unit=>.tuple #[strV (rdS q),errV F (rdE q)])
  (fun _=>[rdP p s (a+rdT q),zAh br [.pointer (some ⟨p,0,none⟩)] 158,zAh bm [.int .i64 (most:Nat)] 3]):=fun br bm=>by
  have cc:=textC_ct (W:=W) (F:=F) (p:=p) (s:=s) (a:=a) br bm most hm ha hs e1 e2 e3
  cases q with
  |bad e=>
   have hne:=errNe (F:=F) (e:=e) (by rcases rtx_err hq with h|h|h <;> omega)
   rw [hq] at cc
   rw [show rdT (.bad e)=0 from rfl,Nat.add_zero]
   refine Ct.enter Tryz.func180 rfl Tryz.ntmps180 (by simp) (fun R=>?_)
   repeat' (first|(refine is_callV ?_;refine KJ_callV rfl xE rfl cc xP rfl (fun _=>?_))|(refine zBz ?_;refine zAb (Ev_neqNil rfl hne) ?_)|refine xst ?_|(refine xsa ?_;intro _)|(refine xsb ?_ ?_ <;>intro _<;>try (exfalso;omega))|refine xsc ?_|fail)
   all_goals (exact xdn ())
  |ok y t=>
   rw [hq,txA_ok hq] at cc
   refine Ct.enter Tryz.func180 rfl Tryz.ntmps180 (by simp) (fun R=>?_)
   repeat' (first|(refine is_callV ?_;refine KJ_callV rfl xE rfl cc xP rfl (fun _=>?_))|refine xst ?_|(refine xsa ?_;intro _)|(refine xsb ?_ ?_ <;>intro _<;>try (exfalso;omega))|refine xsc ?_|fail)
   all_goals (exact xdn ())
 refine Ct.enter Tryz.func144 rfl Tryz.ntmps144 (by simp) (fun R=>?_)
 repeat' (first|(refine zBe ?_;refine zBb rfl xF rfl (fun g=>?_))|(refine zAd ?_;refine zAc xE (cu _ _) xP rfl (fun _=>?_))|(refine ek_mkFunc ?_;refine zAb (Ev_mkFunc2 rfl rfl) ?_)|refine xst ?_|(refine xsa ?_;intro _)|(refine xsb ?_ ?_ <;>intro _<;>try (exfalso;omega))|refine xsc ?_|fail)
 all_goals (exact xdn ())
end
end Go.Proofs.YtgipenahkmbelaaGreatDoor
