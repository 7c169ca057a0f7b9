/-
  Gnl2, BaE, BaW2, Dyn, BaW1, BaW3, Gnl3.
-/
import Derived.Test.YtgipenahkmbelaaGreatDoorTCP
import Derived.Test.YtgipenahkmbelaaGreatDoorTCJ
import Derived.Test.YtgipenahkmbelaaGreatDoorTBX
import Derived.Test.YtgipenahkmbelaaGreatDoorTAM
import Derived.Great.BuildSlice
set_option maxHeartbeats 64000000
namespace Go.Proofs.YtgipenahkmbelaaGreatDoor
open Go Go.RowKit
abbrev noP:SP:=factP True
section
variable {P:Program} {W:World} {n d:Nat} {E:Env} {H H' R R':List SP} {k:KK} {t u e:TypeId} {x y z:Operand} {b off c:Nat} {α:Type} {enc:α→List Value} {sz:Nat}
structure Lv (W:World) (enc:α→List Value) (sz:Nat) (A:SP) (a:Option Addr) (l:List α):Prop where
 go:∀ w H R,Sel A H R→St W H w→l≠[]→∃ b o,a=some ⟨b,o,none⟩∧w.rangeAt b o (l.flatMap enc)
theorem Lv.old (K:EncOk enc sz) {a:Option Addr} {l:List α} {c:Nat} (h:LsAt W enc sz (.slice a l.length c) l):Lv W enc sz noP a l:=
 ⟨fun w H R _ s hne=>by
  obtain ⟨a',c',hv,hx⟩:=h
  cases hv
  obtain ⟨b,o,ha,hb,hr⟩:=hx hne
  refine ⟨b,o,ha,fun j v hj=>s.old ?_⟩
  have hlt:j<l.length*sz:=by
   have:=(List.getElem?_eq_some_iff.1 hj).1
   rwa [K.flat] at this
  have hi:j / sz<l.length:=Nat.div_lt_of_lt_mul (by rw [Nat.mul_comm];exact hlt)
  have hm:j % sz<sz:=Nat.mod_lt _ K.pos
  have e:=flatE_get K.len l (j / sz) (j % sz) hm
  rw [Nat.div_add_mod',hj,List.getElem?_eq_getElem hi] at e
  have:=hr (j / sz) l[j / sz] (List.getElem?_eq_getElem hi) (j % sz) v e.symm
  have ej:sz*(j / sz)+j % sz=j:=Nat.div_add_mod j sz
  rw [Nat.add_assoc,ej] at this
  exact this⟩
theorem Lv.take (K:EncOk enc sz) {a:Option Addr} {c i m:Nat} {L:List α} (hm:m=L.length):Lv W enc sz (lsP enc e sz (.slice a m c) L) a (L.take i):=
 ⟨fun w H R hs q hne=>by
  subst hm
  have hrow:=q.row hs
  rcases hrow.2 with ⟨_,h0⟩|⟨g,cap,cur,hv,_⟩
  ·exact absurd (by rw [List.length_eq_zero_iff.1 h0];simp) hne
  ·cases hv
   refine ⟨g,0,rfl,fun j v hj=>?_⟩
   have:=hrow.cells (g:=g) rfl j v (K.take_at hj)
   rwa [Addr.add_mid] at this⟩
theorem Lv.own (K:EncOk enc sz) {a:Option Addr} {c m:Nat} {L:List α} (hm:m=L.length):Lv W enc sz (lsP enc e sz (.slice a m c) L) a L:=by
 have h:=Lv.take (W:=W) (e:=e) (a:=a) (c:=c) (i:=L.length) K hm
 rwa [List.take_length] at h
theorem KJ.lvSome {A:SP} {a:Option Addr} {l:List α} (hL:Lv W enc sz A a l) (hs:Sel A H R) (hm:0<l.length) (h:∀ b o,a=some ⟨b,o,none⟩→KJ W n k E H):KJ W n k E H:=
 ⟨fun ac w q s=>by
  obtain ⟨b,o,ha,-⟩:=hL.go w _ _ (hs.app _) s (by intro h;subst h;simp at hm)
  exact (h b o ha).go ac w q s⟩
theorem zBn {A:SP} {a:Option Addr} {i:Nat} {l:List α} {q:α} {b0 o:Nat} (K:EncOk enc sz) (hL:Lv W enc sz A a l) (ha:a=some ⟨b0,o,none⟩) (hx:Env.ev E x=some (.pointer (some ⟨b0,off,none⟩))) [hu:AgIs P t] [hi:SzIs P t sz] (hs:Sel A H R) (ho:off=o+i*sz) (hq:l[i]? = some q):Ev P W n E H (.load t x) (.agg (enc q).toArray):=
 Ev.mk fun op hop ac w p s=>by
  obtain ⟨dd,hu,hd⟩:=hu.h
  subst ho
  obtain ⟨b',o',ha',hr⟩:=hL.go w H R hs s (by intro h;subst h;simp at hq)
  rw [ha] at ha'
  cases ha'
  have hc:w.rangeAt b0 (o+i*sz) (enc q):=fun j v hj=>by
   have:=hr _ v (K.at_ hq hj)
   rwa [← Nat.add_assoc] at this
  have:=run_loadAt_mid (P:=P) w b0 (o+i*sz) t (enc q) dd hc hu (isRow_of hd) (by rw [K.len];exact hi.h)
  simp [execOp,hop,p.ev hx,this,Result.andThen]
theorem zBj {A:SP} {a:Option Addr} {i j:Nat} {l:List α} {q:α} {v:Value} {b0 o:Nat} (K:EncOk enc sz) (hL:Lv W enc sz A a l) (ha:a=some ⟨b0,o,none⟩) (hx:Env.ev E x=some (.pointer (some ⟨b0,off,none⟩))) [hu:ScIs P t] (hs:Sel A H R) (ho:off=o+i*sz+j) (hq:l[i]? = some q) (hv:(enc q)[j]? = some v):Ev P W n E H (.load t x) v:=
 Ev.mk fun op hop ac w p s=>by
  obtain ⟨dd,hu,hd⟩:=hu.h
  subst ho
  obtain ⟨b',o',ha',hr⟩:=hL.go w H R hs s (by intro h;subst h;simp at hq)
  rw [ha] at ha'
  cases ha'
  have hc:w.cell? ⟨b0,o+i*sz+j,none⟩=some v:=by
   have:=hr _ v (K.at_ hq hv)
   rwa [← Nat.add_assoc] at this
  simp [execOp,hop,p.ev hx,run_loadAt_one w hc hu hd,Result.andThen]
theorem noP_star:∀ g,zAj H g→zAj (noP::H) g:=fun g q=>⟨fun _=>none,g,(fun _ _ q=>by cases q),(fun _ _ q=>by cases q),.rfl,trivial,q⟩
theorem KJ.noP (h:KJ W n k E (noP::H)):KJ W n k E H:=⟨fun a w q s=>h.go a w q (s.mono noP_star)⟩
theorem Src.lv {A:SP} {a:Option Addr} {l:List α} {b0 o:Nat} (hL:Lv W enc sz A a l) (ha:l≠[]→a=some ⟨b0,o,none⟩) (hs:Sel A H R):Src W H a (l.flatMap enc):=
 ⟨fun hne=>by
  have hl:l≠[]:=by intro h;subst h;exact hne rfl
  refine ⟨b0,o,ha hl,fun w q=>?_⟩
  obtain ⟨b',o',ha',hr⟩:=hL.go w H R hs q hl
  rw [ha hl] at ha'
  cases ha'
  exact hr⟩
theorem KJ.lvOpen {A:SP} {a:Option Addr} {l:List α} (hL:Lv W enc sz A a l) (hs:Sel A H R) (h:∀ b o,(l≠[]→a=some ⟨b,o,none⟩)→KJ W n k E H):KJ W n k E H:=
 ⟨fun ac w q s=>by
  by_cases hl:l=[]
  ·exact (h 0 0 (fun h=>absurd hl h)).go ac w q s
  ·obtain ⟨b,o,ha,-⟩:=hL.go w _ _ (hs.app _) s hl
   exact (h b o (fun _=>ha)).go ac w q s⟩
end
theorem perm_pickB {α β:Type} [DecidableEq α]:∀ {left:List (α × β)} {p:α × β},(left.map (·.1)).Nodup→p ∈ left→(p::left.filter fun q=>decide (q.1≠p.1)).Perm left
 |[],p,_,h=>by cases h
 |q::l,p,hn,h=>by
  simp only [List.map_cons,List.nodup_cons] at hn
  by_cases e:q=p
  ·subst e
   have:l.filter (fun x=>decide (x.1≠q.1))=l:=List.filter_eq_self.2 (fun x hx=>by
    simp only [ne_eq,decide_not,Bool.not_eq_eq_eq_not,Bool.not_true,decide_eq_false_iff_not]
    intro h;exact hn.1 (h ▸ List.mem_map.2 ⟨x,hx,rfl⟩))
   simp only [List.filter_cons,ne_eq,not_true_eq_false,decide_false,Bool.false_eq_true,if_false]
   simp only [ne_eq] at this
   rw [this]
  ·have hp:p ∈ l:=by
    rcases List.mem_cons.1 h with h|h
    ·exact absurd h.symm e
    ·exact h
   have hk:q.1≠p.1:=fun h=>hn.1 (h ▸ List.mem_map.2 ⟨p,hp,rfl⟩)
   have ih:=perm_pickB hn.2 hp
   simp only [List.filter_cons,hk,ne_eq,not_false_eq_true,decide_true,if_true]
   simp only [ne_eq] at ih
   exact (List.Perm.swap _ _ _).trans (List.Perm.cons _ ih)
theorem nodup_leB {α:Type} [DecidableEq α]:∀ {l r:List α},l.Nodup→(∀ x ∈ l,x ∈ r)→l.length≤r.length
 |[],_,_,_=>by simp
 |a::l,r,hn,hs=>by
  simp only [List.nodup_cons] at hn
  have ha:=hs a (by simp)
  have ih:=nodup_leB (r:=r.erase a) hn.2 (fun x hx=>(List.mem_erase_of_ne (fun e=>hn.1 (by rw [← e];exact hx))).2 (hs x (by simp [hx])))
  have hl:=List.length_erase_of_mem ha
  have hp:=List.length_pos_of_mem ha
  simp only [List.length_cons]
  omega
end Go.Proofs.YtgipenahkmbelaaGreatDoor
namespace Go.Proofs.YtgipenahkmbelaaGreatDoor
open Go Go.RowKit
def encOp (o:BOp):List UInt8:=if o.del then 1::tx o.key else 0::(tx o.key++tx o.val)
def encOps (ops:List BOp):List UInt8:=ops.flatMap encOp
def encAll (ops:List BOp):List UInt8:=vu ops.length++encOps ops
def risesB:List BOp→Bool
 |[]=>true
 |[_]=>true
 |a::b::r=>Op.bytesLess a.key b.key && risesB (b::r)
def formB (o:BOp):Bool:=!o.del || decide (o.val=[])
def encode (ops:List BOp):List UInt8 × Nat:=if risesB ops=false then ([],4) else if ops.all formB=false then ([],7) else (encAll ops,0)
theorem risesB_iff:∀ {l:List BOp},risesB l=true↔Rising BOp.key l
 |[]=>⟨fun _=>List.Pairwise.nil,fun _=>rfl⟩
 |[a]=>⟨fun _=>List.pairwise_cons.2 ⟨fun _ h=>absurd h (by simp),List.Pairwise.nil⟩,fun _=>rfl⟩
 |a::b::r=>by
  unfold risesB
  rw [Bool.and_eq_true,risesB_iff (l:=b::r)]
  constructor
  ·rintro ⟨h1,h2⟩
   refine List.pairwise_cons.2 ⟨fun y hy=>?_,h2⟩
   rcases List.mem_cons.1 hy with e|e
   ·rw [e];exact h1
   ·exact tl_tr h1 ((List.pairwise_cons.1 h2).1 y e)
  ·intro h
   obtain ⟨h1,h2⟩:=List.pairwise_cons.1 h
   exact ⟨h1 b (List.mem_cons_self ..),h2⟩
theorem formB_iff {o:BOp}:formB o=true↔o.nrm=o:=by
 obtain ⟨d,k,v⟩:=o
 unfold formB BOp.nrm
 cases d
 ·simp
 ·simp [eq_comm]
end Go.Proofs.YtgipenahkmbelaaGreatDoor
namespace Go.Proofs.YtgipenahkmbelaaGreatDoor
open Go Go.RowKit
def byC (b:UInt8):List Value:=[bv b]
theorem byC_ok:EncOk byC 1:=⟨fun _=>rfl,fun b=>by unfold byC bv;exact xO,by omega⟩
theorem flat_by (l:List UInt8):l.flatMap byC=bvs l:=by
 induction l with
 |nil=>rfl
 |cons b l ih=>rw [List.flatMap_cons,ih];rfl
abbrev byP (v:Value) (l:List UInt8):SP:=lsP byC 5 1 v l
def wrF (p:Nat) (l:List UInt8) (x:Option Addr × Nat):List SP:=[zAh p [.slice x.1 l.length x.2] 198,byP (.slice x.1 l.length x.2) l]
def WrP (p:Nat) (l:List UInt8):SP:=packP 41 p (wrF p l)
structure ShrF (kd:IntKind) (i s y:Int):Prop where
 h0:0≤s
 h:i.fdiv (2 ^ (min s.toNat kd.bits))=y
theorem Ev_shr_s {P:Program} {W:World} {n:Nat} {E:Env} {H:List SP} {t u:TypeId} {x y:Operand} {kd yk:IntKind} {i j r:Int} (hx:Env.ev E x=some (.int kd i)) (hy:Env.ev E y=some (.int yk j)) (h:ShrF kd i j r):Ev P W n E H (.binOp .shr t x y u) (.int kd r):=by
 have q:=h.h
 subst q
 exact Ev_shr hx hy h.h0
structure OrF (kd:IntKind) (i j y:Int):Prop where
 h:bits .or kd i j=y
theorem Ev_or_s {P:Program} {W:World} {n:Nat} {E:Env} {H:List SP} {t u:TypeId} {x y:Operand} {kd:IntKind} {i j r:Int} (hx:Env.ev E x=some (.int kd i)) (hy:Env.ev E y=some (.int kd j)) (h:OrF kd i j r):Ev P W n E H (.binOp .or t x y u) (.int kd r):=by
 have q:=h.h
 subst q
 exact Ev_or hx hy
theorem or128 (x:Nat):OrF .u8 ((x % 256:Nat):Int) 128 ((UInt8.ofNat (x % 128+128)).toNat:Int):=by
 refine ⟨?_⟩
 have key:∀ y:Fin 256,bits .or .u8 ((y.val:Nat):Int) 128=((UInt8.ofNat (y.val % 128+128)).toNat:Int):=by decide +kernel
 have:=key ⟨x % 256,by omega⟩
 rw [this]
 have e:x % 256 % 128=x % 128:=by omega
 show ((UInt8.ofNat (x % 256 % 128+128)).toNat:Int)=_
 rw [e]
theorem KJ.wrOpen {W:World} {n:Nat} {k:KK} {E:Env} {H R:List SP} {p:Nat} {l:List UInt8} (q:Sel (WrP p l) H R) (h:∀ a c,KJ W n k E (zAh p [.slice a l.length c] 198::byP (.slice a l.length c) l::R)):KJ W n k E H:=KJ.unpack_at q fun x=>h x.1 x.2
theorem u8_wrap (x:Nat):IntKind.u8.wrap (x:Int)=((x % 256:Nat):Int):=by
 simp [IntKind.wrap,IntKind.signed,IntKind.bits]
theorem u8_nat (x:Nat):((x % 256:Nat):Int)=((UInt8.ofNat x).toNat:Int):=by rw [UInt8.toNat_ofNat']
theorem shr7 (x:Nat):ShrF .u64 (x:Int) 7 ((x / 128:Nat):Int):=by
 refine ⟨by omega,?_⟩
 show (x:Int).fdiv 128=_
 rw [Int.fdiv_eq_ediv_of_nonneg _ (by omega)]
 omega
theorem vuF_small {f x:Nat} (h:x<128):vuF (f+1) x=[UInt8.ofNat x]:=by unfold vuF;rw [if_pos h]
theorem vuF_big {f x:Nat} (h:¬ x<128):vuF (f+1) x=UInt8.ofNat (x % 128+128)::vuF f (x / 128):=by rw [vuF,if_neg h]
def VuI (l0:List UInt8) (x0:Nat) (i:List UInt8 × Nat × Nat):Prop:=i.1++vuF (i.2.2+1) i.2.1=l0++vu x0∧i.2.1<128 ^ (i.2.2+1)∧i.2.1≤x0∧l0.length≤i.1.length
theorem VuI.start (l:List UInt8) {x:Nat} (hx:x<18446744073709551616):VuI l x (l,x,9):=⟨rfl,by show x<128 ^ 10;omega,Nat.le_refl _,Nat.le_refl _⟩
theorem VuI.next {l0 l:List UInt8} {x0 x f:Nat} (h:VuI l0 x0 (l,x,f)) (hx:¬ x<128):∃ f',f=f'+1∧VuI l0 x0 (l++[UInt8.ofNat (x % 128+128)],x / 128,f'):=by
 obtain ⟨h1,h2,h3,h4⟩:=h
 dsimp only at h1 h2 h3 h4
 cases f with
 |zero=>simp at h2;omega
 |succ f=>
  refine ⟨f,rfl,?_,?_,?_,?_⟩
  ·dsimp only
   rw [vuF_big hx] at h1
   rw [List.append_assoc];exact h1
  ·dsimp only
   rw [Nat.pow_succ] at h2
   exact Nat.div_lt_of_lt_mul (by rw [Nat.mul_comm];exact h2)
  ·dsimp only;omega
  ·dsimp only;rw [List.length_append];omega
theorem VuI.last {l0 l:List UInt8} {x0 x f:Nat} (h:VuI l0 x0 (l,x,f)) (hx:x<128):l++[UInt8.ofNat x]=l0++vu x0:=by
 have h1:=h.1
 dsimp only at h1
 rw [vuF_small hx] at h1;exact h1
theorem VuI.len {l0:List UInt8} {x0:Nat} {i:List UInt8 × Nat × Nat} (h:VuI l0 x0 i):i.1.length+1≤l0.length+(vu x0).length:=by
 have:=congrArg List.length h.1
 rw [List.length_append,List.length_append] at this
 have:=vuF_pos i.2.2 i.2.1
 omega
theorem vu_len (x:Nat):(vu x).length≤10:=vuF_le 10 x
theorem vu_pos (x:Nat):1≤(vu x).length:=vuF_pos 9 x
section
variable {W:World} {p:Nat} {l:List UInt8}
theorem wnew_ct:Ct Tryz.prog W 96 [] [] (fun p:Nat=>.pointer (some ⟨p,0,none⟩)) (fun p=>[WrP p []]):=by
 refine Ct_packs (fun _=>((none:Option Addr),(0:Nat))) ?_
 refine Ct.enter Tryz.func96 rfl Tryz.ntmps96 (by simp) (fun R=>?_)
 repeat' (first|(refine zBe ?_;refine zBb rfl xF rfl (fun g=>?_))|(refine zAy ?_;refine zAb (zAz xV xW) ?_)|refine xst ?_|(refine xsa ?_;intro _)|(refine xsb ?_ ?_ <;>intro _<;>try (exfalso;omega))|refine xsc ?_|fail)
 all_goals refine KJ.nilrow 5 1 ?_
 all_goals (exact xdn g)
theorem wuint_ct (x:Nat) (hx:x<18446744073709551616) (hl:l.length+10≤140737488355328):Ct Tryz.prog W 97 [.pointer (some ⟨p,0,none⟩),.int .u64 (x:Nat)] [WrP p l] (fun _:Unit=>.tuple #[]) (fun _=>[WrP p (l++vu x)]):=by
 refine Ct.enter Tryz.func97 rfl Tryz.ntmps97 (by simp) (fun R=>?_)
 repeat' (first|refine xst ?_|(refine xsa ?_;intro _)|(refine xsb ?_ ?_ <;>intro _<;>try (exfalso;omega))|refine xsc ?_|fail)
 refine zBv (fun i:{i:List UInt8 × Nat × Nat//VuI l x i}=>[(0,.pointer (some ⟨p,0,none⟩)),(1,.int .u64 (i.1.2.1:Nat))])
  (fun i=>[WrP p i.1.1]++R) (fun i=>i.1.2.2) ⟨(l,x,9),VuI.start l hx⟩ xB (xN) (fun ⟨(l',y,f),hi⟩=>?_)
 dsimp only
 have hlen:=hi.len
 have hv:=vu_len x
 dsimp only at hlen
 refine KJ.wrOpen xS (fun a c=>?_)
 have b1:(l'.length+1)*1≤140737488355328:=by omega
 have b2:l'.length+1≤9223372036854775807:=by omega
 by_cases hlt:y<128
 ·have ql:decide ((128:Int)≤(y:Nat))=false:=decide_eq_false (by omega)
  have e1:IntKind.u8.wrap ((y:Nat):Int)=((UInt8.ofNat y).toNat:Int):=by rw [u8_wrap,u8_nat]
  repeat' (first|(refine zBq ?_;refine zCe (a:=UInt8.ofNat y) byC_ok rfl rfl rfl xS xS b1 b2 rfl (fun g' c'=>?_))|(refine zBi ?_;refine zBt rfl xF (by rfl) (by omega) rfl (fun gb=>?_))|(refine zBu ?_;refine zAb (zAw rfl e1) ?_)|(refine ek_geq ?_;refine zAb (zBk rfl rfl ql) ?_)|refine xst ?_|(refine xsa ?_;intro _)|(refine xsb ?_ ?_ <;>intro _<;>try (exfalso;omega))|refine xsc ?_|fail)
  all_goals rw [hi.last hlt]
  all_goals refine KJ.packs (tag:=41) (key:=p) (F:=wrF p (l++vu x)) (some ⟨g',0,none⟩,c') xP ?_
  all_goals (exact xdn ())
 ·have ql:decide ((128:Int)≤(y:Nat))=true:=decide_eq_true (by omega)
  obtain ⟨f',rfl,hn⟩:=hi.next hlt
  repeat' (first|(refine zBq ?_;refine zCe (a:=UInt8.ofNat (y % 128+128)) byC_ok rfl rfl rfl xS xS b1 b2 rfl (fun g' c'=>?_))|(refine zBi ?_;refine zBt rfl xF (by rfl) (by omega) rfl (fun gb=>?_))|(refine zBu ?_;refine zAb (zAw rfl (u8_wrap y)) ?_)|(refine ek_or ?_;refine zAb (Ev_or_s rfl rfl (or128 y)) ?_)|(refine ek_shr ?_;refine zAb (Ev_shr_s rfl rfl (shr7 y)) ?_)|(refine ek_geq ?_;refine zAb (zBk rfl rfl ql) ?_)|refine xst ?_|(refine xsa ?_;intro _)|(refine xsb ?_ ?_ <;>intro _<;>try (exfalso;omega))|refine xsc ?_|fail)
  all_goals refine KJ.packs (tag:=41) (key:=p) (F:=wrF p (l'++[UInt8.ofNat (y % 128+128)])) (some ⟨g',0,none⟩,c') xP ?_
  all_goals refine zAv ⟨(l'++[UInt8.ofNat (y % 128+128)],y / 128,f'),hn⟩ (by show f'<f'+1;omega) xB (xN)
theorem wbyte_ct (b:UInt8) (hl:l.length+1≤140737488355328):Ct Tryz.prog W 168 [.pointer (some ⟨p,0,none⟩),bv b] [WrP p l] (fun _:Unit=>.tuple #[]) (fun _=>[WrP p (l++[b])]):=by
 refine Ct.enter Tryz.func168 rfl Tryz.ntmps168 (by simp) (fun R=>?_)
 refine KJ.wrOpen xS (fun a c=>?_)
 have b1:(l.length+1)*1≤140737488355328:=by omega
 have b2:l.length+1≤9223372036854775807:=by omega
 repeat' (first|(refine zBq ?_;refine zCe (a:=b) byC_ok rfl rfl rfl xS xS b1 b2 rfl (fun g' c'=>?_))|(refine zBi ?_;refine zBt rfl xF (by rfl) (by omega) rfl (fun gb=>?_))|refine xst ?_|(refine xsa ?_;intro _)|(refine xsb ?_ ?_ <;>intro _<;>try (exfalso;omega))|refine xsc ?_|fail)
 all_goals refine KJ.packs (tag:=41) (key:=p) (F:=wrF p (l++[b])) (some ⟨g',0,none⟩,c') xP ?_
 all_goals (exact xdn ())
end
end Go.Proofs.YtgipenahkmbelaaGreatDoor
namespace Go.Proofs.YtgipenahkmbelaaGreatDoor
open Go Go.RowKit
section
variable {P:Program} {W:World} {n d:Nat} {E:Env} {H R:List SP} {k:KK} {dd:Option Tmp} {X:Type}
theorem run_callV {o:Oper} {f:FuncId} {x:Operand} {xs:List Operand} {ts:Array TypeId} {vs:List Value} {fs cs:Array Value} (ho:o.op=.call { callee:=.value x,args:=xs.toArray,argTypes:=ts }) (h0:Env.ev E x=some (.func (.func f) fs cs)) (hx:Evs E xs vs) [hf:FnIs P f] {a:Act} (p:Hd n E a) (w:World):(execOp a.eval o).run P w=.ok (.enter f (fs++vs.toArray++cs)) w:=by
 have hf:=hf.h
 cases hq:P.funcs[f]? with
 |none=>simp [hq] at hf
 |some fn=>
  simp [hq] at hf
  obtain ⟨h1,h2⟩:=hf
  have e:a.eval x=.func (.func f) fs cs:=p.ev h0
  have hb:¬ fn.body=none:=by cases h:fn.body <;> simp_all
  have hv:=p.evs hx
  simp [execOp,ho,resolve,e,Deferred.ofValue,invoke,callFunc,Go.program,Sem.run,hq,h2,hb,hv,Result.andThen]
theorem KJ_callV' {f:FuncId} {x:Operand} {xs:List Operand} {ts:Array TypeId} {vs us:List Value} {fs cs:Array Value} {Hpre:List SP} {r:X→Value} {Hp:X→List SP} (h0:Env.ev E x=some (.func (.func f) fs cs)) (hx:Evs E xs vs) (hu:us=fs.toList++vs++cs.toList) [hf:FnIs P f]
 (hc:Ct P W f us Hpre r Hp) (hp:Pick Hpre H R) (hn:dstOk n dd=true) (h:∀ c,KJ W n k (Env.put E dd (r c)) (Hp c++R)):KJ W n (.oper P (.call { callee:=.value x,args:=xs.toArray,argTypes:=ts }) dd k) E H:=by
 refine ⟨fun a w p s o ho hd=>?_⟩
 subst hd
 show uponP P o a _ ((execOp a.eval o).run P w)
 rw [run_callV ho h0 hx p w]
 have e:fs++vs.toArray++cs=us.toArray:=by rw [hu];apply Array.ext';simp
 rw [e]
 refine (hc.go (R++dm a.defers) w (s.perm ((hp.perm.append_right _).trans (by rw [List.append_assoc])))).mono ?_
 rintro e w' ⟨c,rfl,s⟩
 refine ⟨_,rfl,(h c).go _ w' (p.put hn _) ?_⟩
 show St W (_++dm (a.put o.dst _).defers) w'
 rw [put_defers,List.append_assoc];exact s
theorem KJ_callV {f:FuncId} {x:Operand} {xs:List Operand} {ts:Array TypeId} {vs us:List Value} {fs cs:Array Value} {Hpre:List SP} {r:X→Value} {Hp:X→List SP} (h0:Env.ev E x=some (.func (.func f) fs cs)) (hx:Evs E xs vs) (hu:us=fs.toList++vs++cs.toList) [hf:FnIs P f]
 (hc:Ct P W f us Hpre r Hp) (hp:Pick Hpre H R) (hn:Nat.blt d n=true) (h:∀ c,KJ W n k ((d,r c)::E) (Hp c++R)):KJ W n (.oper P (.call { callee:=.value x,args:=xs.toArray,argTypes:=ts }) (some d) k) E H:=
 KJ_callV' h0 hx hu hc hp hn h
end
end Go.Proofs.YtgipenahkmbelaaGreatDoor
namespace Go.Proofs.YtgipenahkmbelaaGreatDoor
open Go Go.RowKit
def opC (o:BOp):List Value:=[.bool o.del,strV o.key,strV o.val]
def opV (o:BOp):Value:=.agg (opC o).toArray
theorem zCa:EncOk opC 3:=⟨fun _=>rfl,fun x=>by unfold opC;exact xO,by omega⟩
instance:Inhabited BOp:=⟨⟨false,[],[]⟩⟩
theorem ky_key:KyOk Tryz.prog 9 strV:=ky_str Tryz.underlying9
abbrev BMap:=List (List UInt8 × BOp)
def MapOk (ops:List BOp) (m:BMap):Prop:=(m.map (·.1)).Nodup∧∀ k,lk m k=zBx ops k
theorem MapOk.nil:MapOk [] []:=⟨List.nodup_nil,fun _=>rfl⟩
theorem MapOk.put {ops:List BOp} {m:BMap} (h:MapOk ops m) (o:BOp):MapOk (ops++[o]) (mput m o.key o.nrm):=
 ⟨mput_nodup h.1 _ _,fun k=>by
  rw [lk_put,lastOf_one,h.2]
  by_cases e:k=o.key
  ·rw [if_pos e,if_pos e.symm]
  ·rw [if_neg e,if_neg (fun q=>e q.symm)]⟩
theorem MapOk.len {ops:List BOp} {m:BMap} (h:MapOk ops m):m.length≤ops.length:=by
 have key:∀ (l:List BOp) (k:List UInt8) (x:BOp),zBx l k=some x→∃ o ∈ l,o.key=k:=by
  intro l
  induction l with
  |nil=>intro k x h;cases h
  |cons o r ih=>
   intro k x h
   rw [zBx] at h
   cases e:zBx r k with
   |some y=>obtain ⟨o',h1,h2⟩:=ih k y e;exact ⟨o',by simp [h1],h2⟩
   |none=>
    rw [e,Option.none_or] at h
    split at h
    ·rename_i hk;exact ⟨o,by simp,hk⟩
    ·cases h
 have:=nodup_leB (l:=m.map (·.1)) (r:=ops.map BOp.key) h.1 (fun k hk=>by
  obtain ⟨p,hp,rfl⟩:=List.mem_map.1 hk
  have h1:=lk_of h.1 hp
  rw [h.2] at h1
  obtain ⟨o,h2,h3⟩:=key _ _ _ h1
  exact List.mem_map.2 ⟨o,h2,h3⟩)
 simpa using this
theorem rising_sorted {γ:Type} {f:γ→List UInt8} {l:List γ} (h:l.Pairwise fun x y=>Op.bytesLess (f y) (f x)=false) (hn:(l.map f).Nodup):Rising f l:=by
 induction l with
 |nil=>exact List.Pairwise.nil
 |cons x l ih=>
  obtain ⟨h1,h2⟩:=List.pairwise_cons.1 h
  simp only [List.map_cons,List.nodup_cons] at hn
  exact List.pairwise_cons.2 ⟨fun y hy=>tl_not (h1 y hy) (fun e=>hn.1 (e ▸ List.mem_map.2 ⟨y,hy,rfl⟩)),ih h2 hn.2⟩
end Go.Proofs.YtgipenahkmbelaaGreatDoor
namespace Go.Proofs.YtgipenahkmbelaaGreatDoor
open Go Go.RowKit
theorem u64_wrap (x:Nat) (h:x<18446744073709551616):IntKind.u64.wrap (x:Int)=(x:Int):=by
 simp only [IntKind.wrap,IntKind.signed,IntKind.bits]
 simp
 omega
theorem leq_not (a c:List UInt8):(Op.bytesLess a c || decide (a=c))=!Op.bytesLess c a:=by
 by_cases e:a=c
 ·subst e;simp [tl_irr]
 ·cases h:Op.bytesLess a c with
  |true=>simp [tl_asym h]
  |false=>simp [tl_not h e,e]
def AdjTo (ops:List BOp) (i:Nat):Prop:=∀ j a b,j+1<i→ops[j]? = some a→ops[j+1]? = some b→Op.bytesLess a.key b.key=true
theorem AdjTo.one (ops:List BOp):AdjTo ops 1:=fun j a b h=>absurd h (by omega)
theorem AdjTo.next {ops:List BOp} {i:Nat} (h:AdjTo ops (i+1)) {a b:BOp} (ha:ops[i]? = some a) (hb:ops[i+1]? = some b) (hl:Op.bytesLess a.key b.key=true):AdjTo ops (i+1+1):=fun j x y hj hx hy=>by
 by_cases e:j=i
 ·subst e
  rw [ha] at hx;rw [hb] at hy;cases hx;cases hy;exact hl
 ·exact h j x y (by omega) hx hy
theorem AdjTo.rises:∀ {ops:List BOp},AdjTo ops ops.length→risesB ops=true
 |[],_=>rfl
 |[_],_=>rfl
 |a::b::r,h=>by
  unfold risesB
  rw [h 0 a b (by simp) rfl rfl,Bool.true_and]
  exact AdjTo.rises (ops:=b::r) fun j x y hj hx hy=>h (j+1) x y (by simp at hj ⊢;omega) hx hy
theorem rises_not {ops:List BOp} {j:Nat} {a b:BOp} (ha:ops[j]? = some a) (hb:ops[j+1]? = some b) (hl:Op.bytesLess a.key b.key=false):risesB ops=false:=by
 cases h:risesB ops with
 |false=>rfl
 |true=>
  have hr:=risesB_iff.1 h
  obtain ⟨h1,e1⟩:=List.getElem?_eq_some_iff.1 ha
  obtain ⟨h2,e2⟩:=List.getElem?_eq_some_iff.1 hb
  have:=List.pairwise_iff_getElem.1 hr j (j+1) h1 h2 (by omega)
  rw [e1,e2,hl] at this;cases this
theorem encode_order {ops:List BOp} (h:risesB ops=false):encode ops=([],4):=by unfold encode;rw [if_pos h]
theorem encode_form {ops:List BOp} (h:risesB ops=true) {i:Nat} {o:BOp} (ho:ops[i]? = some o) (hf:formB o=false):encode ops=([],7):=by
 unfold encode
 rw [if_neg (by rw [h];decide),if_pos]
 cases e:ops.all formB with
 |false=>rfl
 |true=>rw [List.all_eq_true.1 e o (List.mem_of_getElem? ho)] at hf;cases hf
theorem encode_ok {ops:List BOp} (h:risesB ops=true) (hf:∀ i o,ops[i]? = some o→i<ops.length→formB o=true):encode ops=(encAll ops,0):=by
 unfold encode
 rw [if_neg (by rw [h];decide),if_neg]
 rw [List.all_eq_true.2 fun o ho=>by
  obtain ⟨i,hi⟩:=List.mem_iff_getElem?.1 ho
  exact hf i o hi (List.getElem?_eq_some_iff.1 hi).1]
 decide
def encTo (ops:List BOp) (i:Nat):List UInt8:=vu ops.length++encOps (ops.take i)
theorem encTo_zero (ops:List BOp):encTo ops 0=vu ops.length:=by simp [encTo,encOps]
theorem encTo_next {ops:List BOp} {i:Nat} {o:BOp} (h:ops[i]? = some o):encTo ops (i+1)=encTo ops i++encOp o:=by
 unfold encTo encOps
 rw [List.take_add_one,h,List.append_assoc]
 simp
theorem encTo_all (ops:List BOp):encTo ops ops.length=encAll ops:=by unfold encTo encAll;rw [List.take_length]
theorem encTo_len {ops:List BOp} {i:Nat} {o:BOp} (h:ops[i]? = some o):(encTo ops i).length+(encOp o).length≤(encAll ops).length:=by
 have e:encAll ops=encTo ops (i+1)++encOps (ops.drop (i+1)):=by
  unfold encTo encAll encOps
  rw [List.append_assoc,← List.flatMap_append,List.take_append_drop]
 rw [e,encTo_next h]
 simp
theorem encTo_pos (ops:List BOp) (i:Nat):1≤(encTo ops i).length:=by
 have:=vu_pos ops.length
 unfold encTo;simp;omega
theorem encOp_del (k v:List UInt8):encOp ⟨true,k,v⟩=1::tx k:=rfl
theorem encOp_put (k v:List UInt8):encOp ⟨false,k,v⟩=0::(tx k++tx v):=rfl
theorem tx_len (s:List UInt8):s.length+1≤(tx s).length:=by have:=vu_pos s.length;unfold tx;rw [List.length_append];omega
section
variable {P:Program} {W:World} {n d:Nat} {E:Env} {H H' R R':List SP} {k:KK} {t u e:TypeId} {x y z:Operand} {b off c:Nat}
theorem KJ_appStrB {v:Value} {l m:List UInt8} (hx:Env.ev E x=some v) (hy:Env.ev E y=some (strV m)) [hu:UIs P t (.slice e)] [hstr:UIs P u .string] [hs:SzIs P e 1] [hb:ByIs P e 1] [hz:ZcIs P e [.int .u8 0]] (hsel:Sel (lsP byC e 1 v l) H R)
 (hne:m≠[]∨v.ownBlock.isSome=true) (hbd:l.length+m.length≤140737488355328) (hn:Nat.blt d n=true)
 (h:∀ g c,KJ W n k ((d,.slice (some ⟨g,0,none⟩) (l++m).length c)::E) (lsP byC e 1 (.slice (some ⟨g,0,none⟩) (l++m).length c) (l++m)::R)):KJ W n (.oper P (.call { callee:=.builtin .append,args:=#[x,y],argTypes:=#[t,u] }) (some d) k) E H:=by
 refine KJ_appendStr (hu:=hu) (hstr:=hstr) (hs:=hs) (hb:=hb) (hz:=hz) hx hy hsel hne hbd hn (fun g c=>?_)
 have:=h g c
 unfold lsP at this
 rw [flat_by,List.length_append] at this
 rw [flat_by]
 have e:bvs (l++m)=bvs l++bvs m:=by simp [bvs]
 rw [e] at this
 exact this
theorem Ev_bytesB {s u:TypeId} {g m:Nat} {l:List UInt8} (hx:Env.ev E x=some (.slice (some ⟨g,0,none⟩) m c)) [hs:UIs P s (.slice e)] [he:UIs P e (.int .u8)] [hd:UIs P u .string] (hsel:Sel (lsP byC e 1 (.slice (some ⟨g,0,none⟩) m c) l) H R) (hm:m=l.length):Ev P W n E H (.convert s u x) (strV l):=by
 subst hm
 unfold lsP at hsel
 rw [flat_by] at hsel
 exact Ev_bytesRow (hs:=hs) (he:=he) (hd:=hd) hx hsel
end
section
variable {W:World} {p:Nat} {l:List UInt8}
theorem wtext_ct (m:List UInt8) (hl:l.length+m.length+10≤140737488355328):Ct Tryz.prog W 132 [.pointer (some ⟨p,0,none⟩),strV m] [WrP p l] (fun _:Unit=>.tuple #[]) (fun _=>[WrP p (l++tx m)]):=by
 have cu:=wuint_ct (W:=W) (p:=p) (l:=l) m.length (by omega) (by omega)
 have e1:IntKind.u64.wrap ((m.length:Nat):Int)=((m.length:Nat):Int):=u64_wrap _ (by omega)
 have hv:=vu_len m.length
 have hp:=vu_pos m.length
 have hbd:(l++vu m.length).length+m.length≤140737488355328:=by rw [List.length_append];omega
 refine Ct.enter Tryz.func132 rfl Tryz.ntmps132 (by simp) (fun R=>?_)
 repeat' (first|(refine zAd ?_;refine zAc xE cu xP rfl (fun _=>?_);refine KJ.wrOpen xS (fun a c=>?_);refine KJ.lsSome xS (by rw [List.length_append];omega) (fun g hg=>?_);subst hg)|(refine zBq ?_;refine KJ_appStrB rfl rfl xS (.inr rfl) hbd rfl (fun g' c'=>?_))|(refine zBu ?_;refine zAb (zAw rfl e1) ?_)|refine xst ?_|(refine xsa ?_;intro _)|(refine xsb ?_ ?_ <;>intro _<;>try (exfalso;omega))|refine xsc ?_|fail)
 all_goals rw [List.append_assoc]
 all_goals refine KJ.packs (tag:=41) (key:=p) (F:=wrF p (l++tx m)) (some ⟨g',0,none⟩,c') xP ?_
 all_goals (exact xdn ())
theorem wout_ct (hl:0<l.length):Ct Tryz.prog W 100 [.pointer (some ⟨p,0,none⟩)] [WrP p l] (fun _:Unit=>strV l) (fun _=>[WrP p l]):=by
 refine Ct.enter Tryz.func100 rfl Tryz.ntmps100 (by simp) (fun R=>?_)
 refine KJ.wrOpen xS (fun a c=>?_)
 refine KJ.lsSome xS hl (fun g hg=>?_)
 subst hg
 repeat' (first|(refine zBu ?_;refine zAb (Ev_bytesB rfl xS rfl) ?_)|refine xst ?_|(refine xsa ?_;intro _)|(refine xsb ?_ ?_ <;>intro _<;>try (exfalso;omega))|refine xsc ?_|fail)
 all_goals refine KJ.packs (tag:=41) (key:=p) (F:=wrF p l) (some ⟨g,0,none⟩,c) xP ?_
 all_goals (exact xdn ())
end
end Go.Proofs.YtgipenahkmbelaaGreatDoor
namespace Go.Proofs.YtgipenahkmbelaaGreatDoor
open Go Go.RowKit
theorem fill_congr {p q:Nat→Option (Nat × Nat)}:∀ (ps:List (Nat × Value)) (cells:Array Value),(∀ x ∈ ps,p x.1=q x.1)→Instr.fill p cells ps=Instr.fill q cells ps
 |[],_,_=>rfl
 |(i,v)::ps,cells,h=>by
  unfold Instr.fill
  rw [h (i,v) (by simp)]
  cases hq:q i with
  |none=>rfl
  |some x=>
   obtain ⟨off,m⟩:=x
   dsimp only
   split
   ·rfl
   ·exact fill_congr ps _ fun x hx=>h x (by simp [hx])
section
variable {P:Program} {W:World} {n d:Nat} {E:Env} {H H' R R':List SP} {k:KK} {t u e T:TypeId} {x y z:Operand} {b off c m:Nat} {α:Type} {enc:α→List Value} {sz:Nat}
theorem KJ_bsliceN {len:Nat} {ps:List (Nat × Operand)} {pv:List (Nat × Value)} {zs base vs:List Value} {places:List (Nat × Nat)} (hp:EvP E ps pv) [hu:UIs P t (.slice e)] [hs:SzIs P e m] [hz:ZcIs P e zs]
 (hb:(List.range (len*m)).map (fun x=>zs[x % zs.length]!)=base) (hpl:(pv.all fun x=>decide (places[x.1]? = some (x.1*m,m)))=true) (hf:Fills places base pv vs) (hm:0<len*m∧len*m≤16777216) (hn:Nat.blt d n=true)
 (h:∀ g,KJ W n k ((d,.slice (some ⟨g,0,none⟩) len len)::E) (zAh g vs e::H)):KJ W n (.oper P (.buildSlice t len ps.toArray) (some d) k) E H:=by
 refine ⟨fun a w p s o ho hd=>?_⟩
 have hz:=hz.h
 have hs:=hs.h
 cases hq:P.info? e with
 |none=>simp [hq] at hz
 |some it=>
  simp [hq] at hz hs
  obtain ⟨zv,hz1,hz2⟩:=hz
  subst hs
  have e1:(ps.toArray.map fun (i,x)=>(i,a.eval x)).toList=pv:=by
   rw [← hp.map p];simp
  have hfill:Instr.fill (fun i=>some (i*it.size,it.size)) ((Array.range (len*it.size)).map (zv.cells[· % zv.cells.size]!)) (ps.toArray.map fun (i,x)=>(i,a.eval x)).toList=some vs.toArray:=by
   have hb2:(Array.range (len*it.size)).map (zs.toArray[· % zs.toArray.size]!)=base.toArray:=by
    rw [← hb,← Array.toList_inj]
    simp
   rw [e1,hz2,hb2,← hf.fill]
   refine fill_congr _ _ fun x hx=>?_
   have:=List.all_eq_true.1 hpl x hx
   simp only [decide_eq_true_eq] at this
   rw [List.getElem?_toArray,this]
  have hr:=run_buildSlice (P:=P) w t e len (ps.toArray.map fun (i,x)=>(i,a.eval x)) vs.toArray it zv hu.h hq hz1 (by omega) (by omega) hfill
  show uponP P o a _ ((execOp a.eval o).run P w)
  have hr2:(execOp a.eval o).run P w=.ok (.value (.slice (some ⟨w.heap.size,0,none⟩) len len)) (w.alloc (.cells vs.toArray e)):=by
   simp only [execOp,ho,Sem.run_bind,Sem.run_pure,hr,Result.andThen_ok]
  rw [hr2]
  have:=(h w.heap.size).go _ _ (p.put (d:=some d) hn _) s.new
  rw [← hd] at this
  exact this
theorem Lv.cells {g:Nat} {cs:List Value} {l:List α} (hc:l.flatMap enc=cs):Lv W enc sz (zAh g cs T) (some ⟨g,0,none⟩) l:=
 ⟨fun w H R hs q _=>⟨g,0,rfl,fun j v hj=>by
  subst hc
  rw [(q.blk hs).2.cell,Nat.zero_add]
  exact hj⟩⟩
end
end Go.Proofs.YtgipenahkmbelaaGreatDoor
