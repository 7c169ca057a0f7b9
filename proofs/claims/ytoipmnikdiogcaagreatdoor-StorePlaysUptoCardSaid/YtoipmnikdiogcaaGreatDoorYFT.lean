/-
  TxS1, StR1, Open13, OpenF, RdW5, RdW6.
-/
import Derived.Test.YtoipmnikdiogcaaGreatDoorYFN
set_option maxRecDepth 100000
set_option maxHeartbeats 64000000
namespace Go.Proofs.YtoipmnikdiogcaaGreatDoor
open Go Go.RowKit
open Go.Proofs.Tryz
abbrev yCs:Pl:=(.op 0 (.op 1 (.ef 2 [1] (.op 3 .nil))))
abbrev zTFT0:List (Nat×Pl):=[(6,yCs),(12,yCs)]
abbrev roP (x:Option Addr × Nat) (l:Rows):SP:=lsP rC 64 2 (.slice x.1 l.length x.2) l
theorem ySE {P:Program} {W:World} {n:Nat} {E:Env} {H:List SP} {t u:TypeId} {x y:Operand} {f:Fn} {us vs:Array Value} {ps rs:Array TypeId} {vr:Bool} (hx:Env.ev E x=some (.func f us vs)) (hy:Env.ev E y=some .nilFunc) [hu:UIs P t (.func ps rs vr)]:Ev P W n E H (.binOp .eql t x y u) (.bool false):=by
 refine yEh hx hy (fun w=>?_) (fun w=>?_)
 ·cases x <;> cases y <;> simp [eqGuard]
 ·have e:(Op.equal t (.func f us vs) .nilFunc).run P w=.ok false w:=by
   unfold Op.equal Op.maxDepth;have key:∀ m,(Op.equalIn (m+1) t (.func f us vs) .nilFunc).run P w=.ok false w:=by intro m;simp [Op.equalIn,run_underlying hu.h]
   exact key 9999
  simp [binOp,e,Result.andThen]
theorem Lv.all {W:World} {α:Type} {enc:α→List Value} {sz key:Nat} {A:SP} {L L':List SP} {a:Option Addr} {l:List α} (h:Lv W enc sz A a l) (hx:Sel A L L'):Lv W enc sz (yDx key L) a l:=
 ⟨fun w _ R hs s ao=>h.go w (L++R) (L'++R) (hx.app R) ((s.perm hs.perm).mono (fun _ q=>yCf q)) ao⟩
abbrev yJt (x:Option Addr × Nat) (l:List BOp):SP:=lsP opC 58 3 (.slice x.1 l.length x.2) l
theorem yJF {P:Program} {W:World} {n:Nat} {E:Env} {H:List SP} {t u:TypeId} {x y:Operand} {i j r:Int} (hx:Env.ev E x=some (.int .i64 i)) (hy:Env.ev E y=some (.int .i64 j)) (h:Go.RowKit.wrap64 (i-j)=r):Ev P W n E H (.binOp .sub t x y u) (.int .i64 r):=by
 subst h;have e:IntKind.i64.wrap (i-j)=Go.RowKit.wrap64 (i-j):=by rw [IntKind.wrap_i64];unfold Go.RowKit.wrap64;rfl
 rw [← e];exact yYs hx hy
section
variable {W:World} {F:Nat→Addr} {s d q n:Nat} {r:Rows} {N:List Nd} {a:Option Addr} {b:Int}
instance xAq:FnIs prog 23:=⟨zK⟩
theorem yFJ (A:SP) (a:Option Addr) (c:Nat) (l:List BOp) (hL:Lv W opC 3 A a l) (hl:l.length≤2000000) :Ct prog W 23 [.slice a l.length c] [A] (fun x:Option Addr × Nat=>.slice x.1 l.length x.2) (fun x=>[A,yJt x l]):=by
 have b1:(([]:List BOp).length+l.length)*40≤140737488355328:=by simp;omega
 have b2:([]:List BOp).length+l.length≤9223372036854775807:=by simp;omega
 refine zE func23 ntmps23 fun R=>?_;refine KJ.lvOpen hL xS (fun b0 o0 aJ=>?_);repeat' (first|refine yAQ ?_;refine yGe (l:=([]:List BOp)) (l2:=l) yAY rfl rfl rfl rfl xS (Src.lv hL aJ xS) b1 b2 rfl (fun a1 c1=>?_)|refine yAD ?_;refine yCC rfl (fun g0=>?_)|refine xst ?_|refine xsf ?_ ?_|intro _)
 all_goals (obtain ⟨L2,hL2⟩:∃ L2,L2=([]++l:List BOp):=⟨_,rfl⟩)
 all_goals (simp only [List.nil_append,List.length_nil,zLq] at *)
 all_goals (exact xdn (a1,c1))
end
section
open Go Go.RowKit Go.ChangeShapes Go.WideShapes Go.Deep
theorem yKU:prog.cellsOf 4=1:=zK
theorem yOt:prog.cellsOf 58=3:=zK
theorem ySF:prog.cellsOf 38=1:=zK
instance:Inhabited BOp:=⟨⟨false,[],[]⟩⟩
section
variable {H:Type} {enc:TypeId × Value→H} {W:World} {base:Nat} {held:Bool}
theorem yP5 {n:Nat} {cs:List Value} {x:DataW H × List MemPlace} (h:DataW.trod enc prog W base (fun _=>true) held n 38 cs=some x) :∃ (l:List BOp) (ad:Option Addr) (c:Nat),cs=[.slice ad l.length c]∧xCs W opC 3 (.slice ad l.length c) l∧l.length≤Rows.uptoBulk x.1∧l.length≤c∧ ∀ o ∈ l,o.key.length≤Rows.uptoBulk x.1∧o.val.length≤Rows.uptoBulk x.1:=by
 obtain ⟨l,ad,c,e,hb,hlc,-,-,hx,hz⟩:=yQE (α:=BOp) underlying38 yOt zO (fun s cs D=>cs=opC s∧s.key.length≤Rows.uptoBulk D∧s.val.length≤Rows.uptoBulk D) (fun n cs x hx=>by
  obtain ⟨xs,m,_,rfl,hl,df,hf⟩:=DataW.trod_struct underlying58 hx;rw [yOt] at hl
  match cs,hl with
  |[c0,c1,c2],_=>
   match xs,df with
   |[y0,y1,y2],_=>
    have h0:DataW.trod enc prog W base (fun _=>true) held m 4 [c0]=some y0:=yC8 hf 0 rfl yKU;have h1:DataW.trod enc prog W base (fun _=>true) held m 9 [c1]=some y1:=yC8 hf 1 rfl yGS;have h2:DataW.trod enc prog W base (fun _=>true) held m 9 [c2]=some y2:=yC8 hf 2 rfl yGS;obtain ⟨b0,e0,-⟩:=DataW.trod_bool underlying4 h0;obtain ⟨s1,e1,f1⟩:=DataW.trod_string underlying9 h1;obtain ⟨s2,e2,f2⟩:=DataW.trod_string underlying9 h2;simp only [List.cons.injEq,and_true] at e0 e1 e2;subst e0;subst e1;subst e2;have pl:=yJ5 (H:=H) [y0.1,y1.1,y2.1];have m1:=yIE (H:=H) (d:=y1.1) (l:=[y0.1,y1.1,y2.1]) zW;have m2:=yIE (H:=H) (d:=y2.1) (l:=[y0.1,y1.1,y2.1]) zW;have n1:s1.data.toList.length≤Rows.uptoBulk y1.1:=by rw [f1.1,yHO];omega
    have n2:s2.data.toList.length≤Rows.uptoBulk y2.1:=by rw [f2.1,yHO];omega
    exact ⟨⟨b0,s1.data.toList,s2.data.toList⟩,rfl,Nat.le_trans n1 (Nat.le_trans m1 pl),Nat.le_trans n2 (Nat.le_trans m2 pl)⟩) h
 refine ⟨l,ad,c,e,⟨ad,c,rfl,fun ao=>?_⟩,hb,hlc,fun o ho=>?_⟩
 ·obtain ⟨b,o,h1,h2,h3⟩:=hx ao;refine ⟨b,o,h1,h2,fun i x hx=>?_⟩;obtain ⟨cs,D,⟨rfl,_,_⟩,_,_,h4⟩:=h3 i x hx;exact h4
 ·obtain ⟨i,hi,he⟩:=List.mem_iff_getElem.1 ho;obtain ⟨b,o',h1,h2,h3⟩:=hx (by intro e;rw [e] at ho;cases ho);obtain ⟨cs,D,⟨_,k1,k2⟩,k3,_,_⟩:=h3 i o (by rw [zLb hi,he]);exact ⟨Nat.le_trans k1 k3,Nat.le_trans k2 k3⟩
end
end
section
open Go Go.RowKit Go.ChangeShapes Go.WideShapes Go.Deep
theorem yOu:prog.cellsOf 41=3:=zK
theorem ySG:prog.cellsOf 39=1:=zK
section
variable {H:Type} {enc:TypeId × Value→H} {W:World} {base:Nat} {held:Bool}
theorem yXL {n:Nat} {cs:List Value} {x:DataW H × List MemPlace} (h:DataW.trod enc prog W base (fun _=>true) held n 39 cs=some x) :∃ kv l,cs=[kv]∧BoolsAt W kv l∧l.length≤Rows.uptoBulk x.1:=by
 rcases open_bools underlying39 underlying4 yKU h with ⟨rfl,rfl⟩|⟨a,len,cap,B,rfl,_,hl,hm,rfl,hB⟩
 ·exact ⟨_,[],rfl,⟨none,0,rfl,fun h=>absurd rfl h,fun _=>rfl,by simp,by unfold maxLen;omega⟩,by simp⟩
 ·refine ⟨_,(List.range len).map B,rfl,⟨some a,cap,by simp,fun ao=>?_,fun h=>(by cases h),by simpa using hl,hm⟩,?_⟩
  ·have h0:0<len:=by
    rcases Nat.eq_zero_or_pos len with h|h
    ·subst h;simp at ao
    ·exact h
   have hc:=hB 0 zO;obtain ⟨hs,hb⟩:=yQD rfl hc;refine ⟨a.block,a.off,by rw [← yUb hs],hb,fun j v hj=>?_⟩;simp only [List.map_map,zLE,Option.map_eq_some_iff] at hj;obtain ⟨i,hi,rfl⟩:=hj;have ec:i=j∧j<len:=by rw [zLc] at hi;obtain ⟨h1,h2⟩:=hi;simp at h1 h2;exact ⟨h2.symm,h1⟩
   obtain ⟨rfl,ec⟩:=ec;have:=hB i zO;rw [yYC hs] at this;exact this
  ·have:=yQC (H:=H) ((List.range len).map fun i=>.lit (.bool (B i))) ((List.range (cap-len)).map fun j=>.lit (.bool (B (len+j))));simp only [boolRow];simp only [zLD,List.length_range] at this ⊢;omega
theorem ySH {n:Nat} {cs:List Value} {x:DataW H × List MemPlace} (h:DataW.trod enc prog W base (fun _=>true) held n 41 cs=some x) :∃ kv kept torn bytes,cs=[kv,.int .i64 torn,.int .i64 bytes]∧BoolsAt W kv kept∧kept.length≤Rows.uptoBulk x.1∧(Lit.int .i64 torn).wf=true∧(Lit.int .i64 bytes).wf=true:=by
 obtain ⟨xs,m,_,rfl,hl,df,hf⟩:=DataW.trod_struct underlying41 h;rw [yOu] at hl
 match cs,hl with
 |[c0,c1,c2],_=>
  match xs,df with
  |[y0,y1,y2],_=>
   have h0:DataW.trod enc prog W base (fun _=>true) held m 39 [c0]=some y0:=yC8 hf 0 rfl ySG;have h1:DataW.trod enc prog W base (fun _=>true) held m 3 [c1]=some y1:=yC8 hf 1 rfl yJz;have h2:DataW.trod enc prog W base (fun _=>true) held m 3 [c2]=some y2:=yC8 hf 2 rfl yJz;obtain ⟨kv,l,e0,hb,dG⟩:=yXL h0;obtain ⟨n1,e1,_,w1⟩:=DataW.trod_int underlying3 h1;obtain ⟨n2,e2,_,w2⟩:=DataW.trod_int underlying3 h2;simp only [List.cons.injEq,and_true] at e0 e1 e2;subst e0;subst e1;subst e2;refine ⟨_,l,n1,n2,rfl,hb,?_,w1,w2⟩;have a1:=yJ5 (H:=H) ([y0,y1,y2].map (·.1));have a2:=yIE (H:=H) (d:=y0.1) (l:=[y0,y1,y2].map (·.1)) zW;show l.length≤Rows.uptoBulk (.agg ([y0,y1,y2].map (·.1)));omega
end
end
theorem yGT (f:Bool) (last:zB) (l:zB):(l=[]∧yIv f last l=.bad 1)∨(∃ b t,l=b::t∧1<b.toNat∧yIv f last l=.bad 7)∨(∃ b t,l=b::t∧¬ 1<b.toNat∧((∃ e,rtx 2147483647 t=.bad e∧yIv f last l=.bad e)∨ (∃ k u,rtx 2147483647 t=.ok k u∧((f=false∧Op.bytesLess last k=false∧yIv f last l=.bad 4)∨((f=true∨Op.bytesLess last k=true)∧((b.toNat=1∧yIv f last l=.ok ⟨true,k,[]⟩ u)∨(b.toNat=0∧∃ e,rtx 2147483647 u=.bad e∧yIv f last l=.bad e)∨(b.toNat=0∧∃ v w,rtx 2147483647 u=.ok v w∧yIv f last l=.ok ⟨false,k,v⟩ w)))))) ):=by
 cases l with
 |nil=>exact .inl ⟨rfl,rfl⟩
 |cons b t=>
  unfold yIv;dsimp only;by_cases h1:1<b.toNat
  ·rw [if_pos h1];exact .inr (.inl ⟨b,t,rfl,h1,rfl⟩)
  rw [if_neg h1];refine .inr (.inr ⟨b,t,rfl,h1,?_⟩);cases hk:rtx 2147483647 t with
  |bad e=>exact .inl ⟨e,rfl,rfl⟩
  |ok k u=>
   refine .inr ⟨k,u,rfl,?_⟩;dsimp only;by_cases h2:f=false∧Op.bytesLess last k=false
   ·rw [if_pos h2];exact .inl ⟨h2.1,h2.2,rfl⟩
   rw [if_neg h2];refine .inr ⟨?_,?_⟩
   ·cases f
    ·cases h:Op.bytesLess last k
     ·exact absurd ⟨rfl,h⟩ h2
     ·exact .inr rfl
    ·exact .inl rfl
   by_cases h3:b.toNat=1
   ·rw [if_pos h3];exact .inl ⟨h3,rfl⟩
   rw [if_neg h3];refine .inr ?_;cases hv:rtx 2147483647 u with
   |bad e=>exact .inl ⟨zO,e,rfl,rfl⟩
   |ok v w=>exact .inr ⟨zO,v,w,rfl,rfl⟩
section
variable {W:World} {F:Nat→Addr} {p:Nat} {s:zB} {a:Nat}
theorem ySI (ha:a≤s.length) (hs:s.length≤9223372036854775800) (e1:W.cell? ⟨9,0,none⟩=some (yAy F 1)) (e2:W.cell? ⟨10,0,none⟩=some (yAy F 2)) (e3:W.cell? ⟨11,0,none⟩=some (yAy F 3)) (e4:W.cell? ⟨12,0,none⟩=some (yAy F 4)) (e7:W.cell? ⟨14,0,none⟩=some (yAy F 7)) (first:Bool) (last:zB) (e:Nat) (hq:yIv first last (s.drop a)=.bad e) :Ct prog W 155 [zPp p,.bool first,strV last] [rdP p s a] (fun x:BOp × Nat=>.tuple #[.agg (opC x.1).toArray,yAy F e]) (fun x=>[rdP p s x.2]):=by
 rcases yGT first last (s.drop a) with ⟨hl,h1⟩|⟨b,t,hl,hb,h1⟩|⟨b,t,hl,hb,hk⟩
 ·rw [hq] at h1;cases h1;have han:a=s.length:=by have:=congrArg List.length hl;rw [zLf,List.length_nil] at this;omega
  have cb:=yXo (W:=W) (F:=F) (p:=p) (s:=s) (a:=a) han zO e1;refine zE func155 ntmps155 fun R=>?_;repeat' (first|refine zal fun g=>?_|refine xca cb fun _=>?_|refine xst ?_|refine xsf ?_ ?_|refine xdt zTFT0 ?_|apply zN|intro _)
  all_goals (refine yCu ?_;exact yA5 zor rfl (Rvs.agg (T:=58) rfl inferInstance inferInstance xS xC (Rvs.tmp rfl Rvs.nil)) (⟨false,[],[]⟩,a) (by rfl) (xN))
 ·rw [hq] at h1;cases h1;have cS:s[a]? = some b:=by have:=congrArg (fun l=>l[0]?) hl;simpa [zLC] using this
  have hlt:=(zLc.1 cS).1;have ht:t=s.drop (a+1):=by rw [← List.drop_drop,hl];rfl
  have cb:=yM3 (W:=W) (p:=p) (s:=s) (a:=a) cS zO;have qb:decide ((1:Int)<(b.toNat:Int))=true:=zY zO;refine zE func155 ntmps155 fun R=>?_;repeat' (first|refine zal fun g=>?_|refine xca cb fun _=>?_|refine yAi ?_;refine yAa (yAm rfl e7) ?_|refine yAq ?_;refine yAa (yAf rfl rfl qb) ?_|refine xst ?_|refine xsf ?_ ?_|refine xdt zTFT0 ?_|apply zN|intro _)
  all_goals (refine yCu ?_;exact yA5 zor rfl (Rvs.agg (T:=58) rfl inferInstance inferInstance xS xC (Rvs.tmp rfl Rvs.nil)) (⟨false,[],[]⟩,a+1) (by rfl) (xN))
 ·
  have cS:s[a]? = some b:=by have:=congrArg (fun l=>l[0]?) hl;simpa [zLC] using this
  have hlt:=(zLc.1 cS).1;have ht:t=s.drop (a+1):=by rw [← List.drop_drop,hl];rfl
  have cb:=yM3 (W:=W) (p:=p) (s:=s) (a:=a) cS zO;have qb:decide ((1:Int)<(b.toNat:Int))=false:=zZ zO;obtain ⟨d,hd⟩:∃ d,decide ((b.toNat:Int)=1)=d:=⟨_,rfl⟩;rw [ht] at hk;rcases hk with ⟨e',hk,h1⟩|⟨k,u,hk,aW⟩
  ·rw [hq] at h1;cases h1;have ck:=yEb (W:=W) (F:=F) (p:=p) (s:=s) (a:=a+1) 2147483647 zO zO zO e1 e2 e3 _ hk;have ao:=yH7 (F:=F) (e:=e) (by rcases yES hk with h|h|h <;> omega);rw [show rdT (.bad e)=0 from rfl,zLz] at ck;refine zE func155 ntmps155 fun R=>?_;repeat' (first|refine zal fun g=>?_|refine xca ck fun _=>?_|refine xca cb fun _=>?_|refine yAt ?_;refine yAa (yAe rfl rfl hd) ?_|refine yAo ?_;refine yAa (yBZ rfl ao) ?_|refine yAq ?_;refine yAa (yAf rfl rfl qb) ?_|refine xst ?_|refine xsf ?_ ?_|refine xdt zTFT0 ?_|apply zN|intro _)
   all_goals (refine yCu ?_;exact yA5 zor rfl (Rvs.agg (T:=58) rfl inferInstance inferInstance xS xC (Rvs.tmp rfl Rvs.nil)) (⟨d,[],[]⟩,a+1) (by rfl) (xN))
  have ck:=yEb (W:=W) (F:=F) (p:=p) (s:=s) (a:=a+1) 2147483647 zO zO zO e1 e2 e3 _ hk;rw [show rdT (.ok k u)=(tx k).length from rfl,show rdS (.ok k u)=k from rfl] at ck;have fS:=yFD hk;have hu:=yD9 hk;obtain ⟨a2,bx⟩:∃ a2,a2=a+1+(tx k).length:=⟨_,rfl⟩;rw [← bx] at ck fS hu;have bI:=yHp k last;rcases aW with ⟨rfl,eR,h1⟩|⟨fy,aW⟩
  ·rw [hq] at h1;cases h1;rw [eR,Bool.not_false] at bI;refine zE func155 ntmps155 fun R=>?_;repeat' (first|refine zal fun g=>?_|refine xca ck fun _=>?_|refine xca cb fun _=>?_|refine yAi ?_;refine yAa (yAm rfl e4) ?_|refine yAt ?_;refine yAa (yAe rfl rfl hd) ?_|refine yBz ?_;refine yAa (yBq rfl rfl bI) ?_|refine yAq ?_;refine yAa (yAf rfl rfl qb) ?_|refine xst ?_|refine xsf ?_ ?_|refine xdt zTFT0 ?_|apply zN|intro _)
   all_goals (refine yCu ?_;exact yA5 zor rfl (Rvs.agg (T:=58) rfl inferInstance inferInstance xS xC (Rvs.tmp rfl Rvs.nil)) (⟨d,k,[]⟩,a2) (by rfl) (xN))
  rcases aW with ⟨bU,h1⟩|⟨bU,e',hv,h1⟩|⟨bU,v,w,hv,h1⟩
  ·rw [hq] at h1;cases h1
  ·rw [hq] at h1;cases h1;rw [hu] at hv;have cv:=yEb (W:=W) (F:=F) (p:=p) (s:=s) (a:=a2) 2147483647 zO fS zO e1 e2 e3 _ hv;rw [show rdT (.bad e)=0 from rfl,zLz] at cv;have fU:d=false:=by rw [← hd];exact zZ zO
   subst fU;rcases fy with rfl|hlt2
   ·
    refine zE func155 ntmps155 fun R=>?_;repeat' (first|refine zal fun g=>?_|refine xca cv fun _=>?_|refine xca ck fun _=>?_|refine xca cb fun _=>?_|refine yAt ?_;refine yAa (yAe rfl rfl hd) ?_|refine yAq ?_;refine yAa (yAf rfl rfl qb) ?_|refine xst ?_|refine xsf ?_ ?_|refine xdt zTFT0 ?_|apply zN|intro _)
    all_goals (refine yCu ?_;exact yA5 zor rfl (Rvs.agg (T:=58) rfl inferInstance inferInstance xS xC (Rvs.tmp rfl Rvs.nil)) (⟨false,k,[]⟩,a2) (by rfl) (xN))
   ·rw [hlt2,Bool.not_true] at bI;cases first
    ·
     refine zE func155 ntmps155 fun R=>?_;repeat' (first|refine zal fun g=>?_|refine xca cv fun _=>?_|refine xca ck fun _=>?_|refine xca cb fun _=>?_|refine yAt ?_;refine yAa (yAe rfl rfl hd) ?_|refine yBz ?_;refine yAa (yBq rfl rfl bI) ?_|refine yAq ?_;refine yAa (yAf rfl rfl qb) ?_|refine xst ?_|refine xsf ?_ ?_|refine xdt zTFT0 ?_|apply zN|intro _)
     all_goals (refine yCu ?_;exact yA5 zor rfl (Rvs.agg (T:=58) rfl inferInstance inferInstance xS xC (Rvs.tmp rfl Rvs.nil)) (⟨false,k,[]⟩,a2) (by rfl) (xN))
    ·
     refine zE func155 ntmps155 fun R=>?_;repeat' (first|refine zal fun g=>?_|refine xca cv fun _=>?_|refine xca ck fun _=>?_|refine xca cb fun _=>?_|refine yAt ?_;refine yAa (yAe rfl rfl hd) ?_|refine yBz ?_;refine yAa (yBq rfl rfl bI) ?_|refine yAq ?_;refine yAa (yAf rfl rfl qb) ?_|refine xst ?_|refine xsf ?_ ?_|refine xdt zTFT0 ?_|apply zN|intro _)
     all_goals (refine yCu ?_;exact yA5 zor rfl (Rvs.agg (T:=58) rfl inferInstance inferInstance xS xC (Rvs.tmp rfl Rvs.nil)) (⟨false,k,[]⟩,a2) (by rfl) (xN))
  ·rw [hq] at h1;cases h1
theorem yVo (_ha:a≤s.length) (hs:s.length≤9223372036854775800) (e1:W.cell? ⟨9,0,none⟩=some (yAy F 1)) (e2:W.cell? ⟨10,0,none⟩=some (yAy F 2)) (e3:W.cell? ⟨11,0,none⟩=some (yAy F 3)) (_e4:W.cell? ⟨12,0,none⟩=some (yAy F 4)) (_e7:W.cell? ⟨14,0,none⟩=some (yAy F 7)) (first:Bool) (last:zB) (op:BOp) (t':zB) (hq:yIv first last (s.drop a)=.ok op t') :CtU prog W 155 [zPp p,.bool first,strV last] [rdP p s a] (.tuple #[.agg (opC op).toArray,.nilIface]) [rdP p s (a+(yD7 op).length)]:=by
 rcases yGT first last (s.drop a) with ⟨hl,h1⟩|⟨b,t,hl,hb,h1⟩|⟨b,t,hl,hb,hk⟩
 ·rw [hq] at h1;cases h1
 ·rw [hq] at h1;cases h1
 ·
  have cS:s[a]? = some b:=by have:=congrArg (fun l=>l[0]?) hl;simpa [zLC] using this
  have hlt:=(zLc.1 cS).1;have ht:t=s.drop (a+1):=by rw [← List.drop_drop,hl];rfl
  have cb:=yM3 (W:=W) (p:=p) (s:=s) (a:=a) cS zO;have qb:decide ((1:Int)<(b.toNat:Int))=false:=zZ zO;rw [ht] at hk;rcases hk with ⟨e',hk,h1⟩|⟨k,u,hk,aW⟩
  ·rw [hq] at h1;cases h1
  have ck:=yEb (W:=W) (F:=F) (p:=p) (s:=s) (a:=a+1) 2147483647 zO zO zO e1 e2 e3 _ hk;rw [show rdT (.ok k u)=(tx k).length from rfl,show rdS (.ok k u)=k from rfl] at ck;have fS:=yFD hk;have hu:=yD9 hk;have bI:=yHp k last;rcases aW with ⟨rfl,eR,h1⟩|⟨fy,aW⟩
  ·rw [hq] at h1;cases h1
  rcases aW with ⟨bU,h1⟩|⟨bU,e',hv,h1⟩|⟨bU,v,w,hv,h1⟩
  ·rw [hq] at h1;cases h1;have hd:decide ((b.toNat:Int)=1)=true:=zY zO;have hA:a+(yD7 ⟨true,k,[]⟩).length=a+1+(tx k).length:=by rw [yH3,zLj];omega
   rw [hA];obtain ⟨a2,bx⟩:∃ a2,a2=a+1+(tx k).length:=⟨_,rfl⟩;rw [← bx] at ck fS hu ⊢;rcases fy with rfl|hlt2
   ·
    refine zE func155 ntmps155 fun R=>?_;repeat' (first|refine zal fun g=>?_|refine xca ck fun _=>?_|refine xca cb fun _=>?_|refine yAt ?_;refine yAa (yAe rfl rfl hd) ?_|refine yAq ?_;refine yAa (yAf rfl rfl qb) ?_|refine xst ?_|refine xsf ?_ ?_|refine xdt zTFT0 ?_|apply zN|intro _)
    all_goals (refine yCu ?_;exact yA5 zor rfl (Rvs.agg (T:=58) rfl inferInstance inferInstance xS xC (Rvs.tmp rfl Rvs.nil)) () (by rfl) (xN))
   ·rw [hlt2,Bool.not_true] at bI;cases first
    ·
     refine zE func155 ntmps155 fun R=>?_;repeat' (first|refine zal fun g=>?_|refine xca ck fun _=>?_|refine xca cb fun _=>?_|refine yAt ?_;refine yAa (yAe rfl rfl hd) ?_|refine yBz ?_;refine yAa (yBq rfl rfl bI) ?_|refine yAq ?_;refine yAa (yAf rfl rfl qb) ?_|refine xst ?_|refine xsf ?_ ?_|refine xdt zTFT0 ?_|apply zN|intro _)
     all_goals (refine yCu ?_;exact yA5 zor rfl (Rvs.agg (T:=58) rfl inferInstance inferInstance xS xC (Rvs.tmp rfl Rvs.nil)) () (by rfl) (xN))
    ·
     refine zE func155 ntmps155 fun R=>?_;repeat' (first|refine zal fun g=>?_|refine xca ck fun _=>?_|refine xca cb fun _=>?_|refine yAt ?_;refine yAa (yAe rfl rfl hd) ?_|refine yBz ?_;refine yAa (yBq rfl rfl bI) ?_|refine yAq ?_;refine yAa (yAf rfl rfl qb) ?_|refine xst ?_|refine xsf ?_ ?_|refine xdt zTFT0 ?_|apply zN|intro _)
     all_goals (refine yCu ?_;exact yA5 zor rfl (Rvs.agg (T:=58) rfl inferInstance inferInstance xS xC (Rvs.tmp rfl Rvs.nil)) () (by rfl) (xN))
  ·rw [hq] at h1;cases h1
  ·rw [hq] at h1;cases h1;rw [hu] at hv;have hd:decide ((b.toNat:Int)=1)=false:=zZ zO;have cv:=yEb (W:=W) (F:=F) (p:=p) (s:=s) (a:=a+1+(tx k).length) 2147483647 zO fS zO e1 e2 e3 _ hv;rw [show rdT (.ok v t')=(tx v).length from rfl,show rdS (.ok v t')=v from rfl] at cv;have hA:a+(yD7 ⟨false,k,v⟩).length=a+1+(tx k).length+(tx v).length:=by rw [yH4,zLj,zLa];omega
   rw [hA];obtain ⟨a2,bx⟩:∃ a2,a2=a+1+(tx k).length:=⟨_,rfl⟩;rw [← bx] at ck fS hu cv ⊢;rcases fy with rfl|hlt2
   ·
    refine zE func155 ntmps155 fun R=>?_;repeat' (first|refine zal fun g=>?_|refine xca cv fun _=>?_|refine xca ck fun _=>?_|refine xca cb fun _=>?_|refine yAt ?_;refine yAa (yAe rfl rfl hd) ?_|refine yAq ?_;refine yAa (yAf rfl rfl qb) ?_|refine xst ?_|refine xsf ?_ ?_|refine xdt zTFT0 ?_|apply zN|intro _)
    all_goals (refine yCu ?_;exact yA5 zor rfl (Rvs.agg (T:=58) rfl inferInstance inferInstance xS xC (Rvs.tmp rfl Rvs.nil)) () (by rfl) (xN))
   ·rw [hlt2,Bool.not_true] at bI;cases first
    ·
     refine zE func155 ntmps155 fun R=>?_;repeat' (first|refine zal fun g=>?_|refine xca cv fun _=>?_|refine xca ck fun _=>?_|refine xca cb fun _=>?_|refine yAt ?_;refine yAa (yAe rfl rfl hd) ?_|refine yBz ?_;refine yAa (yBq rfl rfl bI) ?_|refine yAq ?_;refine yAa (yAf rfl rfl qb) ?_|refine xst ?_|refine xsf ?_ ?_|refine xdt zTFT0 ?_|apply zN|intro _)
     all_goals (refine yCu ?_;exact yA5 zor rfl (Rvs.agg (T:=58) rfl inferInstance inferInstance xS xC (Rvs.tmp rfl Rvs.nil)) () (by rfl) (xN))
    ·
     refine zE func155 ntmps155 fun R=>?_;repeat' (first|refine zal fun g=>?_|refine xca cv fun _=>?_|refine xca ck fun _=>?_|refine xca cb fun _=>?_|refine yAt ?_;refine yAa (yAe rfl rfl hd) ?_|refine yBz ?_;refine yAa (yBq rfl rfl bI) ?_|refine yAq ?_;refine yAa (yAf rfl rfl qb) ?_|refine xst ?_|refine xsf ?_ ?_|refine xdt zTFT0 ?_|apply zN|intro _)
     all_goals (refine yCu ?_;exact yA5 zor rfl (Rvs.agg (T:=58) rfl inferInstance inferInstance xS xC (Rvs.tmp rfl Rvs.nil)) () (by rfl) (xN))
end
def yVp (an:List BOp):Rd (List BOp)→Rd (List BOp)
 |.bad e=>.bad e
 |.ok os t=>.ok (an++os) t
structure RopI (s:zB) (n:Nat) (R:Rd (List BOp)) (i:Nat) (an:List BOp) (last:zB) (a:Nat):Prop where
 len:an.length=i
 le:i≤n
 fit:a≤s.length
 two:2*i≤a
 go:yVp an (yDU (n-i) (decide (i=0)) last (s.drop a))=R
theorem RopI.start {s t:zB} {n a:Nat} (ha:a≤s.length) (ht:t=s.drop a):RopI s n (yDU n true [] t) 0 [] [] a:=⟨rfl,zO,ha,zO,by subst ht;show yVp [] (yDU n true [] (s.drop a))=_;cases yDU n true [] (s.drop a) <;> rfl⟩
section
variable {s:zB} {n i a:Nat} {R:Rd (List BOp)} {an:List BOp} {last:zB}
theorem RopI.bad (h:RopI s n R i an last a) (hi:i<n) {e:Nat} (hq:yIv (decide (i=0)) last (s.drop a)=.bad e):R=.bad e:=by have:=h.go;rw [show n-i=(n-i-1)+1 by omega] at this;unfold yDU at this;rw [hq] at this;exact this.symm
theorem RopI.next (h:RopI s n R i an last a) (hi:i<n) {o:BOp} {t:zB} (hq:yIv (decide (i=0)) last (s.drop a)=.ok o t):RopI s n R (i+1) (an++[o]) o.key (a+(yD7 o).length):=by
 have hg:=h.go;have hl:=h.len;have h2:=h.two;have he:=yKy o;have hd:=yUY hq;refine ⟨by simp [hl],zO,yXn hq,zO,?_⟩;rw [← hg,show n-i=(n-(i+1))+1 by omega]
 conv=>rhs;unfold yDU
 rw [hq,← hd,show decide (i+1=0)=false from rfl];dsimp only;cases yDU (n-(i+1)) false o.key t <;> simp [yVp]
theorem RopI.stop (h:RopI s n R i an last a) (hi:¬ i<n):R=.ok an (s.drop a):=by have hg:=h.go;have bI:=h.le;rw [show n-i=0 by omega] at hg;rw [← hg];show yVp an (.ok [] (s.drop a))=_;simp [yVp]
end
theorem yL0 {s:zB} {e:Nat} (h:ru s=.bad e):yAV s=([],e):=by unfold yAV;rw [h]
theorem yKV {s t:zB} {n e:Nat} (h:ru s=.ok n t) (h2:yDU n true [] t=.bad e):yAV s=([],e):=by unfold yAV;rw [h];dsimp only;rw [h2]
theorem yKW {s t u:zB} {n:Nat} {os:List BOp} (h:ru s=.ok n t) (h2:yDU n true [] t=.ok os u) (hu:u≠[]):yAV s=([],5):=by unfold yAV;rw [h];dsimp only;rw [h2];dsimp only;rw [if_neg hu]
theorem yOv {s t u:zB} {n:Nat} {os:List BOp} (h:ru s=.ok n t) (h2:yDU n true [] t=.ok os u) (hu:u=[]):yAV s=(os,0):=by unfold yAV;rw [h];dsimp only;rw [h2];dsimp only;rw [if_pos hu]
section
variable {W:World} {F:Nat→Addr}
theorem yGU (s:zB) (hs:s.length≤4398046511104) (hE:ErrsOn L16 W F) :Ct prog W 99 [strV s] [] (fun x:Option Addr × Nat=>.tuple #[.slice x.1 (yAV s).1.length x.2,yAy F (yAV s).2]) (fun x=>[lsP opC 58 3 (.slice x.1 (yAV s).1.length x.2) (yAV s).1]):=by
 have e1:W.cell? ⟨9,0,none⟩=some (yAy F 1):=hE.at_ 1 zX;have e2:W.cell? ⟨10,0,none⟩=some (yAy F 2):=hE.at_ 2 zX;have e3:W.cell? ⟨11,0,none⟩=some (yAy F 3):=hE.at_ 3 zX;have e4:W.cell? ⟨12,0,none⟩=some (yAy F 4):=hE.at_ 4 zX;have e5:W.cell? ⟨13,0,none⟩=some (yAy F 5):=hE.at_ 5 zX;have e7:W.cell? ⟨14,0,none⟩=some (yAy F 7):=hE.at_ 7 zX;have cr:=yDK (W:=W) s;have fE:=fun p q hq=>yEa (W:=W) (F:=F) (p:=p) (s:=s) (a:=0) zO zO e1 e2 q hq;rw [zLo] at fE;refine zE func99 ntmps99 fun R=>?_;cases hn:ru s with
 |bad e=>
  have cu:=fun p=>fE p _ hn;have ao:=yH7 (F:=F) (e:=e) (by rcases yDB hn with h|h <;> omega);have hd:=yL0 hn;repeat' (first|refine xca (cu _) fun _=>?_|refine xca cr fun p=>?_|refine yAo ?_;refine yAa (yBZ rfl ao) ?_|refine xst ?_|refine xsf ?_ ?_|intro _)
  all_goals rw [hd]
  all_goals refine KJ.nilrow 58 3 ?_
  all_goals (exact xdn (none,0))
 |ok n t=>
  have cu:=fun p=>fE p _ hn;have hf:=yEL (a:=0) (s:=s) (by rw [zLo];exact hn);have dM:=yDs (a:=0) (s:=s) (by rw [zLo];exact hn);rw [show rdL (.ok n t)=(vu n).length from rfl,show rdN (.ok n t)=n from rfl,show rdE (.ok n t)=0 from rfl] at cu;obtain ⟨a0,gi⟩:∃ a0,a0=0+(vu n).length:=⟨_,rfl⟩;rw [← gi] at hf dM cu;repeat' (first|refine xca (cu _) fun _=>?_|refine xca cr fun p=>?_|refine xst ?_|refine xsf ?_ ?_|intro _)
  refine KJ.nilrow 58 3 ?_
  refine yAC (fun x:{x:Nat × List BOp × zB × Nat × Option Addr × Nat//RopI s n (yDU n true [] t) x.1 x.2.1 x.2.2.1 x.2.2.2.1}=>[(4,zPp p),(5,.int .u64 (n:Nat)),(7,.slice x.1.2.2.2.2.1 x.1.2.1.length x.1.2.2.2.2.2),(8,strV x.1.2.2.1),(9,.int .u64 (x.1.1:Nat))])
   (fun x=>[rdP p s x.1.2.2.2.1,lsP opC 58 3 (.slice x.1.2.2.2.2.1 x.1.2.1.length x.1.2.2.2.2.2) x.1.2.1]++R) (fun x=>n-x.1.1) ⟨(0,[],[],a0,none,0),RopI.start hf dM⟩ xB (xN) (fun ⟨(i,an,last,a,sa,sc),hi⟩=>?_)
  dsimp only at hi ⊢;have ai:=hi.len;have htwo:=hi.two;have ak:=hi.fit;by_cases hlt:i<n
  ·have ql:decide (((i:Nat):Int)<((n:Nat):Int))=true:=zY zO;have qf:decide (((i:Nat):Int)=0)=decide (i=0):=by by_cases h:i=0 <;> simp [h]
   have b1:(an.length+1)*40≤140737488355328:=zO;have b2:an.length+1≤9223372036854775807:=zO;cases hq:yIv (decide (i=0)) last (s.drop a) with
   |bad e=>
    have hb:=hi.bad hlt hq;have ao:=yH7 (F:=F) (e:=e) (by have:=yM2 hq;omega);have hd:=yKV hn hb;have co:=ySI (W:=W) (F:=F) (p:=p) (s:=s) (a:=a) ak zO e1 e2 e3 e4 e7 (decide (i=0)) last e hq;repeat' (first|refine zal fun g=>?_|refine xca co fun x=>?_;obtain ⟨o',a'⟩:=x|refine yAt ?_;refine yAa (yAe rfl rfl qf) ?_|refine yAo ?_;refine yAa (yBZ rfl ao) ?_|refine yAh ?_;refine yAa (yAc rfl rfl ql) ?_|refine xst ?_|refine xsf ?_ ?_|intro _)
    all_goals rw [hd]
    all_goals refine KJ.nilrow 58 3 ?_
    all_goals (exact xdn (none,0))
   |ok o u=>
    have ax:=hi.next hlt hq;have bX:n<18446744073709551616:=(yHV hn).2;have co:=yVo (W:=W) (F:=F) (p:=p) (s:=s) (a:=a) ak zO e1 e2 e3 e4 e7 (decide (i=0)) last o u hq;have ha:IntKind.u64.wrap ((i:Int)+1)=((i+1:Nat):Int):=by rw [show (i:Int)+1=((i+1:Nat):Int) by omega];exact yAx _ zO
    repeat' (first|refine zal fun g=>?_|refine xca co fun _=>?_|refine yAQ ?_;refine yBm (a:=o) yAY rfl rfl rfl xS xS b1 b2 rfl (fun g1 c1=>?_)|refine yAD ?_;refine yAK rfl xF (by rfl) zO rfl (fun gb=>?_)|refine yAr ?_;refine yAa (yCF rfl rfl ha) ?_|refine yAt ?_;refine yAa (yAe rfl rfl qf) ?_|refine yAh ?_;refine yAa (yAc rfl rfl ql) ?_|refine xst ?_|refine xsf ?_ ?_|intro _)
    all_goals refine yAs ⟨(i+1,an++[o],o.key,a+(yD7 o).length,some ⟨g1,0,none⟩,c1),ax⟩ (by show n-(i+1)<n-i;omega) xB (xN)
  ·have ql:decide (((i:Nat):Int)<((n:Nat):Int))=false:=zZ zO;have aj:=hi.stop hlt;have cd:=yDL (W:=W) (F:=F) (p:=p) (s:=s) (a:=a) ak zO e5;by_cases a7:a<s.length
   ·have hd:=yKW hn aj (by intro h;have:=congrArg List.length h;rw [zLf,List.length_nil] at this;omega);rw [if_pos a7] at cd;repeat' (first|refine xca cd fun _=>?_|refine yAh ?_;refine yAa (yAc rfl rfl ql) ?_|refine xst ?_|refine xsf ?_ ?_|intro _)
    all_goals rw [hd]
    all_goals refine KJ.nilrow 58 3 ?_
    all_goals (exact xdn (none,0))
   ·have hd:=yOv hn aj (zLl zO);rw [if_neg a7] at cd;repeat' (first|refine xca cd fun _=>?_|refine yAh ?_;refine yAa (yAc rfl rfl ql) ?_|refine xst ?_|refine xsf ?_ ?_|intro _)
    all_goals rw [hd]
    all_goals (exact xdn (sa,sc))
end
end Go.Proofs.YtoipmnikdiogcaaGreatDoor
