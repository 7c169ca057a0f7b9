/-
  DiskC, Ends, OpenG, Mor2, Gen.
-/
import Derived.Test.YtoipmnikdiogcaaGreatDoorYAN
import Derived.Test.YtoipmnikdiogcaaGreatDoorYBB
import Derived.Test.YtoipmnikdiogcaaGreatDoorTie
import Derived.Test.YtoipmnikdiogcaaGreatDoorCards
import Derived.WalkKit
import Derived.ProofKit
import Derived.OpenShut
import Derived.Lay
import Derived.LaidLaws
import Derived.MakeChecks
import Derived.Carry
import Derived.Below
import Derived.Deep.DeepHandedRow
import Derived.Deep.Slices
import Derived.Deep.Fields
import Derived.Deep.Grids
import Derived.Lib.SmallJoins
import Derived.SizedLaws
set_option maxRecDepth 100000
set_option maxHeartbeats 64000000
namespace Go.Proofs.YtoipmnikdiogcaaGreatDoor
open Go Go.RowKit
open Go.Proofs.Tryz
theorem DiskAt.move {w w':World} {F:Nat→Prop} {p:Nat} {D:Dsk} (hd:DiskAt w F p D) (h:∀ k,F k→w'.heap[k]? = w.heap[k]?):DiskAt w' F p D:=by obtain ⟨pd,pm,uv,hp,hpd,hu,hm,hF,hb,am⟩:=hd;refine ⟨pd,pm,uv,hp.keep (h _ hF.1),hpd.keep (h _ hF.2.1),yCO hu (fun g hg=>h _ (hF.2.2.2 g hg)),hm.keep (h _ hF.2.2.1),hF,fun k hk=>⟨(hb k hk).1,?_⟩,am⟩;have h1:=h k hk;have h2:=(hb k hk).2;rw [Array.getElem?_eq_getElem h2] at h1;exact (zLh.1 h1).1
def DiskP (p:Nat) (D:Dsk):SP:=⟨10,p,fun h=>∃ w F,DiskAt w F p D∧∀ k,F k→h k=w.heap[k]?⟩
section
variable {P:Program} {W:World}
theorem DiskP.at {w:World} {h:Hl} {p:Nat} {D:Dsk} (hd:(DiskP p D).ok h) (l:Lies W w h):∃ F,DiskAt w F p D∧∀ k,F k→∃ o,h k=some o:=by
 obtain ⟨w0,F,hd,e⟩:=hd;have hs:∀ k,F k→∃ o,h k=some o∧w0.heap[k]? = some o:=fun k hk=>by have:=(hd.bound k hk).2;exact ⟨_,(e k hk).trans (Array.getElem?_eq_getElem this),Array.getElem?_eq_getElem this⟩
 refine ⟨F,hd.move fun k hk=>?_,fun k hk=>(hs k hk).imp fun o h=>h.1⟩;obtain ⟨o,h1,h2⟩:=hs k hk;rw [h2];exact (l k o h1).2
open Classical in
theorem DiskP.of {w:World} {F:Nat→Prop} {p:Nat} {D:Dsk} (hd:DiskAt w F p D):(DiskP p D).ok (fun k=>if F k then w.heap[k]? else none):=⟨w,F,hd,fun k hk=>by simp [hk]⟩
theorem yEn {X:Type} {r:X→Value} {f:FuncId} {args:List Value} {p:Nat} {D:Dsk} {D':X→Dsk} (Hk:List SP) (h:∀ w F hk,Below W.heap.size W w→DiskAt w F p D→yAH Hk hk→Lies W w hk→(∀ k o,hk k=some o→¬ F k)→(∀ k,F k→W.heap.size≤k)→Calls P f args.toArray w fun e w'=>∃ x F',e=.returned (r x)∧DiskAt w' F' p (D' x)∧Fr F w w'∧∀ k,F' k→F k∨w.heap.size≤k) :Ct P W f args (DiskP p D::Hk) r (fun x=>DiskP p (D' x)::Hk):=by
 refine ⟨fun R w s=>?_⟩;obtain ⟨h1,h2,dj,hA,hH,l1,l2⟩:=(show St W ([DiskP p D]++(Hk++R)) w from s).split;obtain ⟨ha,_,_,lea,_,hd,_⟩:=hA;obtain ⟨F,hd,hF⟩:=DiskP.at hd (l1.mono lea);have hF1:∀ k,F k→∃ o,h1 k=some o:=fun k hk=>(hF k hk).imp fun o h=>lea k o h;obtain ⟨hk,hr,djk,le3,le4,hHk,hHr⟩:=(yBj h2).1 hH;refine (h w F hk s.below hd hHk (l2.mono le3) (fun k o q eH=>?_) (fun k eH=>?_)).mono ?_
 ·obtain ⟨o',h'⟩:=hF1 k eH;have:=dj k o' h';rw [le3 k o q] at this;cases this
 ·obtain ⟨o',h'⟩:=hF1 k eH;exact (l1 k o' h').1
 rintro e w' ⟨x,F',rfl,eh,hf,hF'⟩
 refine ⟨x,rfl,?_⟩;show St W ([DiskP p (D' x)]++(Hk++R)) w';refine St.join s.below dj hH l1 l2 (yBP (DiskP.of eh)) hf.os hf.tape hf.output hf.size ?_ ?_ ?_
 ·intro k o q;by_cases hk:F' k
  ·simpa [hk] using q
  ·simp [hk] at q
 ·intro k o q;by_cases hk:F' k
  ·rcases hF' k hk with h|h
   ·exact .inl (hF1 k h)
   ·exact .inr h
  ·simp [hk] at q
 ·intro k hk hn;refine hf.block k hk (fun h=>?_);obtain ⟨o,h'⟩:=hF1 k h;rw [hn] at h';cases h'
theorem yZD {X:Type} {r:X→Value} {f:FuncId} {args:List Value} (Hk:List SP) (h:∀ w hk,Below W.heap.size W w→yAH Hk hk→Lies W w hk→Calls P f args.toArray w fun e w'=>∃ x,e=.returned (r x)∧Fr noB w w') :Ct P W f args Hk r (fun _=>Hk):=by
 refine ⟨fun R w s=>?_⟩;obtain ⟨h1,h2,dj,hA,hH,l1,l2⟩:=s.split;refine (h w h1 s.below hA l1).mono ?_
 rintro e w' ⟨x,rfl,hf⟩
 refine ⟨x,rfl,?_⟩;have keep:∀ k,k<w.heap.size→w'.heap[k]? = w.heap[k]?:=fun k hk=>hf.block k hk (by simp [noB]);exact St.join (g:=h1) s.below dj hH l1 l2 hA hf.os hf.tape hf.output hf.size (fun k o q=>(keep k (l1.lt q)).trans (l1 k o q).2) (fun k o q=>.inl ⟨o,q⟩) (fun k hk _=>keep k hk)
theorem yZE {X:Type} {r:X→Value} {f:FuncId} {args:List Value} {A:X→SP} (h:∀ w,Below W.heap.size W w→Calls P f args.toArray w fun e w'=>∃ x,e=.returned (r x)∧Fr noB w w'∧∃ g:Hl,(A x).ok g∧∀ k o,g k=some o→w.heap.size≤k∧w'.heap[k]? = some o) :Ct P W f args [] r (fun x=>[A x]):=by
 refine ⟨fun R w s=>?_⟩;obtain ⟨h1,h2,dj,hA,hH,l1,l2⟩:=s.split;refine (h w s.below).mono ?_
 rintro e w' ⟨x,rfl,hf,g,hg,hl⟩
 refine ⟨x,rfl,?_⟩;have keep:∀ k,k<w.heap.size→w'.heap[k]? = w.heap[k]?:=fun k hk=>hf.block k hk (by simp [noB]);exact St.join (g:=g) s.below dj hH l1 l2 (yBP hg) hf.os hf.tape hf.output hf.size (fun k o q=>(hl k o q).2) (fun k o q=>.inr (hl k o q).1) (fun k hk _=>keep k hk)
structure ErrsOn (S:List Nat) (w:World) (E:Nat→Addr):Prop where
 at_:∀ k,k ∈ S→ErrAt w E k
 obj:∀ k,k ∈ S→∃ ca ta,w.heap[(E k).block]? = some (.cells ca ta (0,0))
 inj:∀ j k,j ∈ S→k ∈ S→E j=E k→j=k
 pos:∀ k,k ∈ S→1≤k
abbrev L8:List Nat:=[3,6,7,12,14]
theorem ErrsAt.on {w:World} {E:Nat→Addr} (h:ErrsAt w E):ErrsOn L8 w E:=by have hS:∀ k ∈ L8,1≤k∧k≤37:=zX;exact ⟨fun k hk=>h.at_ k (hS k hk).1 (hS k hk).2,fun k hk=>h.obj k (hS k hk).1 (hS k hk).2,fun j k hj hk=>h.inj j k (hS j hj).1 (hS j hj).2 (hS k hk).1 (hS k hk).2,fun k hk=>(hS k hk).1⟩
theorem ErrsAt.all {w:World} {E:Nat→Addr} (h:ErrsAt w E):ErrsOn (List.range' 1 37) w E:=by have hS:∀ k ∈ List.range' 1 37,1≤k∧k≤37:=zX;exact ⟨fun k hk=>h.at_ k (hS k hk).1 (hS k hk).2,fun k hk=>h.obj k (hS k hk).1 (hS k hk).2,fun j k hj hk=>h.inj j k (hS j hj).1 (hS j hj).2 (hS k hk).1 (hS k hk).2,fun k hk=>(hS k hk).1⟩
theorem ErrAt.keepB {w w':World} {E:Nat→Addr} {k:Nat} (h:ErrAt w E k) (hk:∀ g,g<w.heap.size→w'.heap[g]? = w.heap[g]?):ErrAt w' E k:=by unfold ErrAt at h ⊢;have hb:=World.block_lt_of_cell? w _ h;rw [World.cell?_of_block (w:=w) (hk _ hb)];exact h
theorem ErrsOn.later {S:List Nat} {W w:World} {E:Nat→Addr} (h:ErrsOn S W E) (b:Below W.heap.size W w):ErrsOn S w E:=
 ⟨fun k hk=>(h.at_ k hk).keepB b.block,fun k hk=>by obtain ⟨ca,ta,q⟩:=h.obj k hk;exact ⟨ca,ta,(b.block _ (zLh.1 q).1).trans q⟩,h.inj,h.pos⟩
theorem ErrsAt.later {w:World} {E:Nat→Addr} (h:ErrsAt W E) (b:Below W.heap.size W w):ErrsAt w E:=h.keepB b.size b.block
end
section
variable {W:World} {E:Nat→Addr} {p:Nat} {D:Dsk}
theorem yJy {F:Nat→Prop} {w w':World} (h:w=w'):Fr F w w':=by subst h;exact Fr.refl _ _
theorem yBM:CtU prog W 45 [zPp p] [DiskP p D] (.int .i64 D.n) [DiskP p D]:=
 yEn (D':=fun _=>D) [] fun w F _ _ hd _ _ _ _=>(yWM w F p D hd).mono fun _ _ ⟨he,hw⟩=>⟨(),F,he,hw ▸ hd,yJy hw,fun _ h=>.inl h⟩
theorem yRY:CtU prog W 12 [zPp p] [DiskP p D] (.int .i64 D.und.length) [DiskP p D]:=
 yEn (D':=fun _=>D) [] fun w F _ _ hd _ _ _ _=>(yPj w F p D hd).mono fun _ _ ⟨he,hw⟩=>⟨(),F,he,hw ▸ hd,yJy hw,fun _ h=>.inl h⟩
theorem yDy:CtU prog W 46 [zPp p] [DiskP p D] (.bool D.off) [DiskP p D]:=
 yEn (D':=fun _=>D) [] fun w F _ _ hd _ _ _ _=>(yZx w F p D hd).mono fun _ _ ⟨he,hw⟩=>⟨(),F,he,hw ▸ hd,yJy hw,fun _ h=>.inl h⟩
theorem yJ4:CtU prog W 88 [zPp p] [DiskP p D] (.int .i64 D.life) [DiskP p D]:=
 yEn (D':=fun _=>D) [] fun w F _ _ hd _ _ _ _=>(yWN w F p D hd).mono fun _ _ ⟨he,hw⟩=>⟨(),F,he,hw ▸ hd,yJy hw,fun _ h=>.inl h⟩
theorem yT4:CtU prog W 9 [zPp p] [DiskP p D] (.tuple #[.int .i64 D.writes,.int .i64 D.flushes]) [DiskP p D]:=
 yEn (D':=fun _=>D) [] fun w F _ _ hd _ _ _ _=>(yRR w F p D hd).mono fun e w' ⟨he,m,hw⟩=>⟨(),F,he,by subst hw;exact hd.fr ((Fr.refl noB w).drewN m) (fun _ _ q=>q),by subst hw;exact (Fr.refl F w).drewN m,fun _ h=>.inl h⟩
theorem xBs (k:Int) (hk:k≤9223372036854775807):CtU prog W 27 [zPp p,.int .i64 k] [DiskP p D] (.tuple #[]) [DiskP p (D.arm k)]:=
 yEn (D':=fun _=>D.arm k) [] fun w F _ _ hd _ _ _ _=>(yZy w F p D hd k hk).mono fun _ _ ⟨he,eh,hf⟩=>⟨(),F,he,eh,hf,fun _ h=>.inl h⟩
theorem yMA (hE:ErrsOn L8 W E) (i:Int):CtU prog W 108 [zPp p,.int .i64 i] [DiskP p D] (.tuple #[strV (D.readS i),yAy E (D.readE i)]) [DiskP p D]:=
 yEn (D':=fun _=>D) [] fun w F _ b hd _ _ _ _=>(yWQ w F p D E hd i ((hE.later b).at_ 12 zX) ((hE.later b).at_ 6 zX)).mono fun e w' ⟨he,hf⟩=>⟨(),F,he,hd.fr hf (fun _ _ q=>q),hf.mono (fun _ q=>q.elim),fun _ h=>.inl h⟩
theorem yMB (hE:ErrsOn L8 W E) (i:Int) (s:zB) (aS:D.und.length<1073741824):CtU prog W 124 [zPp p,.int .i64 i,strV s] [DiskP p D] (yAy E (D.writeE i s)) [DiskP p (D.writeD i s)]:=
 yEn (D':=fun _=>D.writeD i s) [] fun w F _ b hd _ _ _ _=>(yTW w F p D E hd i s ((hE.later b).at_ 12 zX) ((hE.later b).at_ 6 zX) ((hE.later b).at_ 7 zX) aS).mono fun e w' ⟨he,F',eh,hf,hF⟩=>⟨(),F',he,eh,hf,hF⟩
theorem yMC (hE:ErrsOn L8 W E) (aS:D.und.length<1073741824):CtU prog W 125 [zPp p] [DiskP p D] (yAy E D.flushE) [DiskP p D.flushD]:=
 yEn (D':=fun _=>D.flushD) [] fun w F _ b hd _ _ _ _=>(yTZ w F p D E hd ((hE.later b).at_ 12 zX) aS).mono fun e w' ⟨he,eh,hf⟩=>⟨(),F,he,eh,hf,fun _ h=>.inl h⟩
theorem yWU:CtU prog W 10 [zPp p] [DiskP p D] (strV D.img) [DiskP p D]:=
 yEn (D':=fun _=>D) [] fun w F _ _ hd _ _ _ _=>(yT1 w F p D hd).mono fun _ _ ⟨he,hf⟩=>⟨(),F,he,hd.fr hf (fun _ _ q=>q),hf.mono (fun _ q=>q.elim),fun _ h=>.inl h⟩
theorem yF7 (hE:ErrsAt W E) (hg:gB≤W.heap.size) (k:Nat) (hk:k≤37):CtU prog W 15 [yAy E k] [] (.int .i64 k) []:=
 yZD [] fun w _ b _ _=>(yZC w E (hE.later b) (Nat.le_trans hg b.size) k hk).mono fun _ _ ⟨he,hf⟩=>⟨(),he,hf⟩
theorem yYA (n:Nat) (h1:1≤n) (h2:n≤65536) (hg:gB≤W.heap.size):Ct prog W 5 [.int .i64 n] [] (fun p:Nat=>.tuple #[zPp p,.nilIface]) (fun p=>[DiskP p (Dsk.blank n)]):=
 yZE fun w b=>(xBq w n h1 h2 (Nat.le_trans hg b.size)).mono fun e w' ⟨p,F,he,hd,hf,hF⟩=>⟨p,he,hf,_,DiskP.of hd,fun k o q=>by
  by_cases hk:F k
  ·exact ⟨hF k hk,by simpa [hk] using q⟩
  ·simp [hk] at q⟩
theorem yT5 (Hk:List SP) (kv:Value) (kept:List Bool) (torn bytes:Int) (hk:∀ w h,Below W.heap.size W w→yAH Hk h→Lies W w h→BoolsAt w kv kept∧(kept≠[]→∀ g,kv.ownBlock=some g→(∃ o,h g=some o)∨g<W.heap.size)) (aS:D.und.length<1073741824) :CtU prog W 29 [zPp p,.agg #[kv,.int .i64 torn,.int .i64 bytes]] (DiskP p D::Hk) (.tuple #[]) (DiskP p (D.crash kept torn bytes)::Hk):=
 yEn (D':=fun _=>D.crash kept torn bytes) Hk fun w F h b hd hh hl hF hW=>by
  obtain ⟨h1,h2⟩:=hk w h b hh hl;refine (yT0 w F p D hd kv kept torn bytes h1 (fun ao g hg hFg=>?_) aS).mono fun e w' ⟨he,eh,hf⟩=>⟨(),F,he,eh,hf,fun _ h=>.inl h⟩;rcases h2 ao g hg with ⟨o,ho⟩|hlt
  ·exact hF g o ho hFg
  ·have:=hW g hFg;omega
theorem yT6 {kv:Value} {kept:List Bool} (torn bytes:Int) (hk:BoolsAt W kv kept) (aS:D.und.length<1073741824) :CtU prog W 29 [zPp p,.agg #[kv,.int .i64 torn,.int .i64 bytes]] [DiskP p D] (.tuple #[]) [DiskP p (D.crash kept torn bytes)]:=
 yT5 [] kv kept torn bytes (fun w h b _ _=>⟨hk.keepB b.size b.block,fun ao g hg=>by
  obtain ⟨a,c,rfl,h1,_⟩:=hk;obtain ⟨b',o,rfl,hb,_⟩:=h1 ao;have:b'=g:=by simpa [Value.ownBlock] using hg
  exact .inr zO⟩) aS
end
section
open Go Go.RowKit Go.ChangeShapes Go.WideShapes Go.Deep
theorem own:ownKnob prog.godebug=none:=zK
theorem yT7:laidOutB prog=true:=zK
theorem yHk {P:Program} {w:World}:∀ {laid:List (String × DataW Unit)} {ps:List MemPlace},DataW.LaidVars P w laid ps→ps.Nodup→∃ pl:Nat→List MemPlace,(∀ i n d,laid[i]? = some (n,d)→∃ g t cs fuel,P.globalNamed n=some g∧(P.globals[g]?).map (·.type)=some t∧w.var? P n=some cs∧ DataW.trod (fun _=>()) P w 0 (fun _=>true) false fuel t cs.toList=some (d,pl i)∧(∀ x ∈ MemPlace.row ⟨g,0,none⟩ cs.size,x ∈ ps)∧∀ x ∈ pl i,x ∈ ps)∧ ∀ i j,i<j→j<laid.length→∀ x ∈ pl i,x ∉ pl j
 |[],ps,_,_=>⟨fun _=>[],fun i n d h=>by simp at h,fun i j _ h=>by simp at h⟩
 |(
  n,d)::r,ps,h,hn=>by
  obtain ⟨g,t,cs,fuel,p,q,h1,h2,h3,h4,h5,rfl⟩:=h;have hq:q.Nodup:=(List.nodup_append.1 hn).2.1;obtain ⟨pl,jm,iO⟩:=yHk h5 hq;refine ⟨fun i=>match i with|0=>p|i+1=>pl i,fun i n' d' hi=>?_,fun i j ec hj x hx=>?_⟩
  ·cases i with
  |zero=>
   simp only [List.getElem?_cons_zero,Option.some.injEq,Prod.mk.injEq] at hi;obtain ⟨rfl,rfl⟩:=hi;exact ⟨g,t,cs,fuel,h1,h2,h3,h4,fun x hx=>by simp [hx],fun x hx=>by simp at hx ⊢;simp [hx]⟩
  |succ i=>
   obtain ⟨g',t',cs',f',a1,a2,a3,a4,a5,a6⟩:=jm i n' d' (by simpa using hi);exact ⟨g',t',cs',f',a1,a2,a3,a4,fun x hx=>List.mem_append_right _ (a5 x hx),fun x hx=>List.mem_append_right _ (a6 x hx)⟩
  ·cases j with
  |zero=>omega
  |succ j=>
   have hj':j<r.length:=by simpa using hj
   cases i with
   |zero=>
    intro hxj;have hxq:x ∈ q:=by obtain ⟨y,hy⟩:∃ y,r[j]? = some y:=⟨_,zLb hj'⟩;obtain ⟨n',d'⟩:=y;obtain ⟨_,_,_,_,_,_,_,_,_,a6⟩:=jm j n' d' hy;exact a6 x hxj
    exact (List.nodup_append.1 hn).2.2 x (List.mem_append_right _ hx) x hxq rfl
   |succ i=>exact iO i j zO hj' x hx
def yZF (x : DataW Unit) : Bool := match x with | .iface "*errors.errorString" (.ptr (.agg [.lit (.string _)])) => true | _ => false
noncomputable def xCP (laid:List (String × DataW Unit)):Bool:=(List.range 37).all fun i=>match laid[i]? with
 |some (n,d)=>(prog.globalNamed n == some (yYy (i+1))) && ((prog.globals[yYy (i+1)]?).map (·.type) == some 27) && yZF d
 |none=>false
theorem yWV {x : DataW Unit} (h : yZF x = true) : ∃ s, x = .iface "*errors.errorString" (.ptr (.agg [.lit (.string s)])) := by
 unfold yZF at h;split at h
 ·exact ⟨_,rfl⟩
 ·cases h
theorem xBt (u : TypeId) (h : prog.typeName? 3 u = some "*errors.errorString") : u = 303 :=
 typeName_ptr_named (nm := "errors.errorString") (by rw [show "*" ++ "errors.errorString" = "*errors.errorString" from by decide]; kernel_rfl) zK zX u (by rw [show "*" ++ "errors.errorString" = "*errors.errorString" from by decide]; exact h)
theorem yWW:prog.cellsOf 319=1:=zK
theorem yWX:prog.cellsOf 9=1:=zK
theorem yNJ {laid:List (String × DataW Unit)} {W:World} (hp:(laid.all fun x=>x.2.handleName?.isNone)=true) (ho:xCP laid=true) (h:laidMetH prog laid W):∃ E,ErrsAt W E:=by
 rw [MakeChecks.laidMetH_plain _ _ _ hp] at h;obtain ⟨ps,hL,hnd,jy⟩:=h;obtain ⟨pl,h1,h2⟩:=yHk hL hnd;have ai:37≤laid.length:=by
  have:=List.all_eq_true.1 ho 36 zW;cases hx:laid[36]? with
  |none=>rw [hx] at this;cases this
  |some y=>have:=(zLc.1 hx).1;omega
 have key:∀ k:Nat,∃ a:Addr,1≤k→k≤37→W.cell? ⟨yYy k,0,none⟩=some (.iface 303 (.pointer (some a)))∧(∃ c t,W.heap[a.block]? = some (.cells c t (0,0)))∧a.spot=none∧pl (k-1)=MemPlace.row a 1:=by
  intro k;by_cases hk:1≤k∧k≤37
  ·have hi:=List.all_eq_true.1 ho (k-1) (by simp;omega);cases hx:laid[k-1]? with
   |none=>rw [hx] at hi;cases hi
   |some y=>
    obtain ⟨n,d⟩:=y;rw [hx] at hi;simp only [zLw,beq_iff_eq] at hi;obtain ⟨⟨e1,e2⟩,e3⟩:=hi;obtain ⟨text,rfl⟩:=yWV e3;rw [show k-1+1=k from by omega] at e1 e2;obtain ⟨g,t,cs,fuel,a1,a2,a3,a4,a5,a6⟩:=h1 _ _ _ hx;obtain rfl:=Option.some.inj (e1.symm.trans a1);obtain rfl:=Option.some.inj (e2.symm.trans a2);obtain ⟨l⟩:=cs;have ok:∀ u v,l=[.iface u v]→Value.okWide prog W .any 0 u v:=fun u v e=>by subst e;exact (jy (yYy k) 0 (a5 _ (by simp [MemPlace.row]))).2 u v (by simpa using World.var?_cell a1 a3 0)
    obtain ⟨a,s,rfl,eu,hs0,hz0,bk⟩:=errorString_of_trod underlying27 xBt underlying303 underlying319 rfl rfl underlying9 yWW yWX a4 ok;have gJ:=ok _ _ rfl;refine ⟨a,fun _ _=>⟨by simpa using World.var?_cell a1 a3 0,(jy a.block a.off (a6 _ (by rw [bk];simp [MemPlace.row]))).1,?_,bk⟩⟩;unfold Value.okWide at gJ;simp only [underlying303] at gJ;unfold Cell.okWide at gJ;simp only [Cell.ok,underlying303] at gJ;exact gJ.2.1
  ·exact ⟨⟨0,0,none⟩,fun h h'=>absurd ⟨h,h'⟩ hk⟩
 obtain ⟨E,hE⟩:∃ E:Nat→Addr,∀ k,1≤k→k≤37→W.cell? ⟨yYy k,0,none⟩=some (.iface 303 (.pointer (some (E k))))∧(∃ c t,W.heap[(E k).block]? = some (.cells c t (0,0)))∧(E k).spot=none∧pl (k-1)=MemPlace.row (E k) 1:=
  ⟨fun k=>Classical.choose (key k),fun k=>Classical.choose_spec (key k)⟩
 refine ⟨E,fun k h1 h2=>?_,fun k h1 h2=>(hE k h1 h2).2.1,fun j k hj1 hj2 ez aW e=>?_⟩
 ·have:=(hE k h1 h2).1;unfold ErrAt;rw [yD3 _ _ h1];exact this
 ·have hj:=(hE j hj1 hj2).2.2.2;have hk:=(hE k ez aW).2.2.2;rw [e] at hj;have iS:(MemPlace.cell (E k).block (E k).off) ∈ MemPlace.row (E k) 1:=by simp [MemPlace.row]
  rcases Nat.lt_trichotomy (j-1) (k-1) with hlt|heq|hlt
  ·exact absurd (by rw [hk];exact iS) (h2 (j-1) (k-1) hlt zO _ (by rw [hj];exact iS))
  ·omega
  ·exact absurd (by rw [hj];exact iS) (h2 (k-1) (j-1) hlt zO _ (by rw [hk];exact iS))
theorem yZG:((((begin prog (fun _ _=>0) default).world.heap[gB-1]?).bind Obj.row?).isSome && decide (gB-1<prog.globals.size))=true:=zK
theorem xCQ {W:World} (h:W.ShapedOpen prog):gB≤W.heap.size:=by have hl:=yZG;simp only [zLw,decide_eq_true_eq] at hl;obtain ⟨h1,h2⟩:=hl;obtain ⟨⟨z,t⟩,hz⟩:=Option.isSome_iff_exists.1 h1;obtain ⟨cs,hc,_⟩:=h.1 _ z t h2 hz;have:=(zLh.1 hc).1;unfold gB at this ⊢;omega
section
variable {H:Type} {enc:TypeId × Value→H} {P:Program}
theorem yMD {f:Func} {s:ChangeSpec} {apart fresh dQ again:Bool} {W W':World} {args:Array Value} {v:Value} {ds gs:List (DataW H)} {before pa pv:List MemPlace} (hW:DataW.Whole enc P f.params.toList s.vars apart W args.toList ds gs before) (au:∀ (b:Nat) (sp:Nat→Bool) (hd:Bool),DataW.TrodAll enc P W' b sp hd f.resultTypes.toList (v.resultList f.resultTypes.size) (s.fn H (ds++gs)).results []) (im:∀ sp:Nat→Bool,(∀ p ∈ before,sp p.block=true)→DataW.TrodAll enc P W' 0 sp true f.params.toList args.toList (s.fn H (ds++gs)).args pa) (jC:∀ sp:Nat→Bool,(∀ p ∈ before,sp p.block=true)→DataW.TrodVars enc P W' sp s.vars (s.fn H (ds++gs)).vars pv) (iF:before=pa++pv) (hb:Below W.heap.size W W') (am:∀ (j:Nat) (t:TypeId) (r:Value),f.resultTypes[j]? = some t→(v.resultList f.resultTypes.size)[j]? = some r→Value.okWide P W' .any 0 t r) :s.post enc P f apart fresh dQ again W args v W':=by
 have hlt:∀ p ∈ before,p.block<W.heap.size:=fun p hp=>hW.lt p hp;have yDw:∀ p ∈ before,(fun b=>decide (b<W.heap.size)) p.block=true:=fun p hp=>by simpa using hlt p hp
 refine ⟨ds,gs,before,[],pa,pv,hW,au _ _ _,im _ yDw,jC _ yDw,World.keptBut_mono (fun p hp=>⟨hp,?_⟩) (hb.frame (· ∈ before)),fun _=>?_⟩
 ·rw [iF,List.mem_append] at hp;exact Or.inr hp
 ·obtain ⟨_,_,_,_,_,hz,hn⟩:=hW;refine ⟨am,_,_,([]++pa)++pv,⟨[]++pa,pv,trodAll_append (im _ (fun _ _=>rfl)) (au _ _ _),jC _ (fun _ _=>rfl),rfl,?_,?_⟩,?_⟩
  ·intro b off hp;have dh:MemPlace.cell b off ∈ before:=by rw [iF];simpa using hp
   rw [hb.frozen (hlt _ dh)];exact hz b off dh
  ·intro ha;have:=hn ha;rw [iF] at this;simpa using this
  ·intro p hp _;rw [iF];simpa using hp
theorem yHN (hl:laidOutB P=true) {W W':World} {sp:Nat→Bool} (hb:Below W.heap.size W W'):∀ {ts:List TypeId} {vs:List Value} {ds:List (DataW H)} {ps:List MemPlace},(ts.all fun t=>P.readableRec t && decide (t<P.types.size))=true→DataW.TrodAll enc P W 0 (fun _=>true) true ts vs ds ps→(∀ x ∈ ps,x.block<W.heap.size)→(∀ x ∈ ps,sp x.block=true)→DataW.TrodAll enc P W' 0 sp true ts vs ds ps
 |[],[],[],_,_,h,_,_=>h
 |t::ts,v::vs,d::ds,ps,hr,h,hlt,hs=>by
  obtain ⟨p,q,h1,h2,rfl⟩:=h;simp only [List.all_cons,zLw,decide_eq_true_eq] at hr
  exact ⟨p,q,WideElems.Trod_stays hl hr.1.1 hr.1.2 h1 (fun x hx=>hb.same (hlt x (List.mem_append_left _ hx))) (fun x hx=>hs x (List.mem_append_left _ hx)),
   yHN hl hb (by simpa using hr.2) h2 (fun x hx=>hlt x (List.mem_append_right _ hx)) (fun x hx=>hs x (List.mem_append_right _ hx)),rfl⟩
 |[],_::_,_,_,_,h,_,_=>h.elim
 |[],[],_::_,_,_,h,_,_=>h.elim
 |_::_,[],_,_,_,h,_,_=>h.elim
 |_::_,_::_,[],_,_,h,_,_=>h.elim
theorem yT8 {f:Func} {s:ChangeSpec} {apart fresh dQ again:Bool} {W W':World} {args:Array Value} {ds gs:List (DataW H)} {before:List MemPlace} {tb:TypeId} (hl:laidOutB P=true) (htb:P.underlying tb=some .bool) (hrt:f.resultTypes=#[tb]) (hr:(f.params.toList.all fun t=>P.readableRec t && decide (t<P.types.size))=true) (hv:s.vars=[])
 (hW:DataW.Whole enc P f.params.toList s.vars apart W args.toList ds gs before) (ii:s.fn H (ds++gs)={ results:=[.lit (.bool true)],args:=ds }) (hb:Below W.heap.size W W') :
 s.post enc P f apart fresh dQ again W args (.bool true) W':=by
 have hlt:∀ p ∈ before,p.block<W.heap.size:=fun p hp=>hW.lt p hp;have hW':=hW;obtain ⟨p,q,hA,hV,rfl,_,_⟩:=hW;rw [hv] at hV;obtain ⟨rfl,rfl⟩:=trodVars_none hV;refine yMD (pa:=p) (pv:=[]) hW' (fun b sp hd=>?_) (fun sp hs=>?_) (fun sp _=>?_) rfl hb (ok_one hrt rfl (okWide_bool_mk htb _))
 ·rw [ii,hrt];exact trodAll_cons_mk (shut_bool htb _) trodAll_mk0
 ·rw [ii];exact yHN hl hb hr hA (fun x hx=>hlt x (by simp [hx])) (fun x hx=>hs x (by simp [hx]))
 ·rw [ii,hv];exact rfl
theorem yNK {C:Checked} {os:Os} {f:FuncId} {fn:Func} {s:OpenSpec} {jJ:List PathCond} {apart:Bool} {laid:List (String × DataW Unit)} (modest:Bool) (w0:World) (args:Array Value) (cQ:w0.os=os) (fN:(w0.forCall (fun _ _=>0) ⟨#[],args,[]⟩).Shaped C.prog) (am:Input.okWideB C.prog (w0.forCall (fun _ _=>0) ⟨#[],args,[]⟩) f ⟨#[],args,[]⟩=true) (aC:s.preRow enc C.prog fn jJ apart laid (w0.forCall (fun _ _=>0) ⟨#[],args,[]⟩).memory args) :∃ (w:World) (tape:Tape) (i:Input),w.os=os∧(w.forCall tape i).Shaped C.prog∧i.vars=[]∧Input.okWide C.prog (w.forCall tape i) .any w.heap.size f i∧ s.preRow enc C.prog fn jJ apart laid (w.forCall tape i).memory i.args∧({ modest:=modest }:Assume).holds C.prog (lone (Frame.enter C.prog f i.args .normal) [] (w.forCall tape i)):=
 ⟨w0,fun _ _=>0,⟨#[],args,[]⟩,cQ,fN,(Input.okWide_of_okWideB (base:=0) am).1,(Input.okWide_of_okWideB am).2,aC,by simp only [Assume.holds];exact ⟨by simp,by simp,fun _=>Modest.zero,by simp,by simp⟩⟩
theorem yYB (d:DataW H):1≤Rows.uptoBulk d:=by
 cases d with
 |lit l=>cases l <;> simp [Rows.uptoBulk]
 |nil=>simp [Rows.uptoBulk]
 |ptr d=>simp [Rows.uptoBulk]
 |slice dq fH=>simp [Rows.uptoBulk]
 |agg parts=>simp [Rows.uptoBulk]
 |iface t d=>simp [Rows.uptoBulk]
 |map entries=>simp [Rows.uptoBulk]
 |held h=>simp [Rows.uptoBulk]
theorem yIE {d:DataW H} {l:List (DataW H)} (h:d ∈ l):Rows.uptoBulk d≤Rows.uptoBulkAll l:=by
 induction l with
 |nil=>cases h
 |cons x r ih=>
  simp only [Rows.uptoBulkAll];cases zLm.1 h with
  |inl e=>subst e;omega
  |inr e=>have:=ih e;omega
theorem yT9 (l:List (DataW H)):l.length≤Rows.uptoBulkAll l:=by
 induction l with
 |nil=>simp [Rows.uptoBulkAll]
 |cons x r ih=>have:=yYB x;simp only [Rows.uptoBulkAll,zLj];omega
theorem yQC (dq fH:List (DataW H)):dq.length+1≤Rows.uptoBulk (.slice dq fH):=by have h1:=yT9 dq;simp only [Rows.uptoBulk];omega
theorem yPn (dq fH:List (DataW H)):Rows.uptoBulkAll dq+1≤Rows.uptoBulk (.slice dq fH):=by simp only [Rows.uptoBulk];omega
theorem yJ5 (ps:List (DataW H)):Rows.uptoBulkAll ps≤Rows.uptoBulk (.agg ps):=by simp only [Rows.uptoBulk];omega
theorem yHO (bytes:zB):Rows.uptoBulk (DataW.lit (H:=H) (.string bytes))=bytes.length+1:=by simp [Rows.uptoBulk]
theorem yRZ {l:List (DataW H)} (hk:Rows.uptoSmall H l=true):Rows.uptoBulkAll l≤1048576:=of_decide_eq_true hk
end
end
section
open Go Go.RowKit Go.ChangeShapes Go.WideShapes Go.Deep
section
variable {H:Type} {enc:TypeId × Value→H} {W:World} {base:Nat} {held:Bool}
theorem yUa {a:Addr} {v:Value} (h:W.cell? a=some v):a.spot=none∧a.block<W.heap.size:=by
 unfold World.cell? at h;split at h
 ·rename_i c t fr hh;refine ⟨?_,(zLh.1 hh).1⟩;split at h
  ·cases h
  ·rename_i hs;cases hq:a.spot with
   |none=>rfl
   |some _=>rw [hq] at hs;simp at hs
 ·cases h
theorem yQD {a:Addr} {i:Nat} (hi:i=0) {v:Value} (h:W.cell? (a.add i)=some v):a.spot=none∧a.block<W.heap.size:=by subst hi;have h1:=yUa h;simpa [Addr.add] using h1
theorem yYC {a:Addr} (h:a.spot=none) (i:Nat):a.add i=⟨a.block,a.off+i,none⟩:=by cases a;simp at h;subst h;unfold Addr.add;simp
theorem yUb {a:Addr} (h:a.spot=none):a=⟨a.block,a.off,none⟩:=by cases a;simp at h;subst h;rfl
theorem yJz:prog.cellsOf 3=1:=zK
theorem yC8 {P:Program} {fs:Array Field} {m:Nat} {cs:List Value} {xs:List (DataW H × List MemPlace)} (hf:∀ (i:Nat) (f:Field),fs[i]? = some f→DataW.trod enc P W base (fun _=>true) held m f.type ((cs.drop f.offset).take (P.cellsOf f.type))=xs[i]?) (i:Nat) {nm:String} {t o:Nat} {em:Bool} {tg pk:String} {bo:Nat} (h:fs[i]? = some ⟨nm,t,o,em,tg,pk,bo⟩) {k:Nat} (hk:P.cellsOf t=k) :DataW.trod enc P W base (fun _=>true) held m t ((cs.drop o).take k)=xs[i]?:=by
 subst hk;exact hf i _ h
theorem yQE {α:Type} [Inhabited α] {T eT k:Nat} (hu:prog.underlying T=some (.slice eT)) (hk:prog.cellsOf eT=k) (hk0:0<k) (Q:α→List Value→DataW H→Prop) (hQ:∀ n cs x,DataW.trod enc prog W base (fun _=>true) held n eT cs=some x→∃ a,Q a cs x.1) {n:Nat} {cs:List Value} {x:DataW H × List MemPlace} (h:DataW.trod enc prog W base (fun _=>true) held n T cs=some x) :∃ (l:List α) (ad:Option Addr) (c:Nat),cs=[.slice ad l.length c]∧l.length≤Rows.uptoBulk x.1∧l.length≤c∧c≤maxLen∧(ad=none→c=0)∧(l≠[]→∃ b o,ad=some ⟨b,o,none⟩∧b<W.heap.size∧ ∀ i a,l[i]? = some a→∃ cs D,Q a cs D∧Rows.uptoBulk D≤Rows.uptoBulk x.1∧cs.length=k∧W.rangeAt b (o+k*i) cs)∧(l≠[]→∃ es sp,x.1=.slice es sp∧es.length=l.length):=by
 rcases open_slice hu h with ⟨rfl,rfl⟩|⟨a,len,cap,m,n,D,Pl,rfl,_,hl,hm,hmm,rfl,hi⟩
 ·exact ⟨[],none,0,rfl,by simp,by simp,by unfold maxLen;omega,fun _=>rfl,fun h=>absurd rfl h,fun h=>absurd rfl h⟩
 ·simp only [if_true] at hmm;have hmm':=hmm.symm;subst hmm';obtain ⟨f,dR⟩:=choose_lt (α:=α) (n:=len) (p:=fun i al=>∃ cs,Q al cs (D i)∧cs.length=k∧∀ j v,cs[j]? = some v→W.cell? (a.add (i*k+j))=some v) (fun i kz=>by
   obtain ⟨cs',hc,ht⟩:=hi i zO;rw [hk] at hc;obtain ⟨_,dS,cJ⟩:=World.cells?_some hc;obtain ⟨al,hq⟩:=hQ _ _ _ ht;refine ⟨al,cs',hq,dS,fun j v hj=>?_⟩;have hjl:j<k:=by have:=(zLc.1 hj).1;omega
   rw [← Go.Deep.add_add,cJ j hjl,hj])
  have ia:∀ i,i<len→Rows.uptoBulk (D i)≤Rows.uptoBulk (DataW.slice ((List.range len).map D) ((List.range (cap-len)).map fun j=>D (len+j))):=fun i kz=>by have h1:=yIE (H:=H) (d:=D i) (l:=(List.range len).map D) (List.mem_map.2 ⟨i,List.mem_range.2 kz,rfl⟩);have h2:=yPn (H:=H) ((List.range len).map D) ((List.range (cap-len)).map fun j=>D (len+j));omega
  refine ⟨(List.range len).map f,some a,cap,by simp,?_,by simpa using hl,hm,fun q=>(by cases q),fun ao=>?_,fun _=>⟨_,_,rfl,by simp⟩⟩
  ·have:=yQC (H:=H) ((List.range len).map D) ((List.range (cap-len)).map fun j=>D (len+j));simp only [zLD,List.length_range] at this ⊢;omega
  ·have h0:0<len:=by
    rcases Nat.eq_zero_or_pos len with h|h
    ·subst h;simp at ao
    ·exact h
   obtain ⟨cs0,_,gc,eu⟩:=dR 0 h0;obtain ⟨v0,aR⟩:∃ v,cs0[0]? = some v:=⟨_,zLb zO⟩;obtain ⟨hs,hb⟩:=yQD zW (eu 0 v0 aR);have ha:a=⟨a.block,a.off,none⟩:=yUb hs;refine ⟨a.block,a.off,by rw [← ha],hb,fun i al bF=>?_⟩;simp only [zLE,Option.map_eq_some_iff] at bF;obtain ⟨i',js,rfl⟩:=bF;have ec:i'=i∧i<len:=by rw [zLc] at js;obtain ⟨h1,h2⟩:=js;simp at h1 h2;exact ⟨h2.symm,h1⟩
   obtain ⟨rfl,ec⟩:=ec;obtain ⟨cs',hq,dS,hc⟩:=dR i' ec;refine ⟨cs',D i',hq,ia i' ec,dS,fun j v hj=>?_⟩;have:=hc j v hj;rw [yYC hs] at this;rw [Nat.mul_comm k i',Nat.add_assoc];exact this
theorem yPo {r:Reach} {b0 T eT:Nat} {v:Value} {d:DataW H} {p:List MemPlace} (hu:prog.underlying T=some (.slice eT)) (hv:Value.okWide prog W r b0 T v) (h:DataW.Trod enc prog W base (fun _=>true) held T v d p) :∃ n,DataW.trod enc prog W base (fun _=>true) held n T [v]=some (d,p):=by
 obtain ⟨a',len',je,rfl⟩:=okWide_slice hu hv;obtain ⟨fuel,hf⟩:=h;exact ⟨fuel,hf⟩
end
end
section
variable {P:Program} {W:World} {n d:Nat} {E:Env} {H H' R:List SP} {t u e:TypeId} {x y z:Operand} {T:TypeId} {b off:Nat} {k:KK}
theorem yYD {kd:IntKind} {i j:Int} (hx:Env.ev E x=some (.int kd i)) (hy:Env.ev E y=some (.int kd j)):Ev P W n E H (.binOp .xor t x y u) (.int kd (bits .xor kd i j)):=yO1 (.inr (.inr (.inl rfl))) hx hy fun _=>rfl
theorem yYE {kd:IntKind} {i j:Int} (hx:Env.ev E x=some (.int kd i)) (hy:Env.ev E y=some (.int kd j)):Ev P W n E H (.binOp .and t x y u) (.int kd (bits .and kd i j)):=yO1 (.inl rfl) hx hy fun _=>rfl
theorem yZH {kd:IntKind} {i j:Int} (hx:Env.ev E x=some (.int kd i)) (hy:Env.ev E y=some (.int kd j)):Ev P W n E H (.binOp .or t x y u) (.int kd (bits .or kd i j)):=yO1 (.inr (.inl rfl)) hx hy fun _=>rfl
theorem yWY {kd:IntKind} {i:Int} (hx:Env.ev E x=some (.int kd i)):Ev P W n E H (.unOp .xor t x) (.int kd (bits .xor kd (if kd.signed then -1 else kd.max) i)):=Ev.mk fun o ho a w p _=>by simp [execOp,ho,p.ev hx,Op.unary,intBits_xor]
theorem yAl {kd:IntKind} {i j:Int} {q:Bool} (hx:Env.ev E x=some (.int kd i)) (hy:Env.ev E y=some (.int kd j)) (h:decide (j≤i)=q):Ev P W n E H (.binOp .geq t x y u) (.bool q):=by subst h;exact yTE hx hy
theorem yAf {kd:IntKind} {i j:Int} {q:Bool} (hx:Env.ev E x=some (.int kd i)) (hy:Env.ev E y=some (.int kd j)) (h:decide (j<i)=q):Ev P W n E H (.binOp .gtr t x y u) (.bool q):=by subst h;exact yTD hx hy
theorem yBd {kd:IntKind} {i j:Int} {q:Bool} (hx:Env.ev E x=some (.int kd i)) (hy:Env.ev E y=some (.int kd j)) (h:decide (i≤j)=q):Ev P W n E H (.binOp .leq t x y u) (.bool q):=by subst h;exact yTC hx hy
theorem yAc {kd:IntKind} {i j:Int} {q:Bool} (hx:Env.ev E x=some (.int kd i)) (hy:Env.ev E y=some (.int kd j)) (h:decide (i<j)=q):Ev P W n E H (.binOp .lss t x y u) (.bool q):=by subst h;exact yTB hx hy
theorem yBv {kd:IntKind} {i j:Int} (hx:Env.ev E x=some (.int kd i)) (hy:Env.ev E y=some (.int kd j)) (h:i≠j):Ev P W n E H (.binOp .eql t x y u) (.bool false):=by have:=yMl (P:=P) (W:=W) (n:=n) (E:=E) (H:=H) (t:=t) (u:=u) hx hy;rw [zZ h] at this;exact this
theorem yBe {kd:IntKind} {i j:Int} (hx:Env.ev E x=some (.int kd i)) (hy:Env.ev E y=some (.int kd j)) (h:i≠j):Ev P W n E H (.binOp .neq t x y u) (.bool true):=by have:=yMm (P:=P) (W:=W) (n:=n) (E:=E) (H:=H) (t:=t) (u:=u) hx hy;rw [zY (by exact h)] at this;exact this
theorem yR0 {j:Int} {kj:IntKind} {m c s:Nat} (hx:Env.ev E x=some (.slice (some ⟨b,off,none⟩) m c)) (hz:Env.ev E z=some (.int kj j)) [hu:UIs P t (.slice e)] (hb:0≤j∧j≤c∧0<c) [hi:SzIs P e s]:Ev P W n E H (.slice t x none (some z) none) (.slice (some ⟨b,off,none⟩) j.toNat c):=
 Ev.mk fun o ho a w p _=>by
  have h1:0≤j:=zO;have h3:¬ c=0:=zO;have hi:=hi.h;cases hq:P.info? e with
  |none=>simp [hq] at hi
  |some q=>
   simp [execOp,ho,p.ev hx,p.ev hz,Instr.sliceAt,Instr.slice,run_underlying hu.h,Instr.sliceBounds,Instr.sliceBound,asIntOf,h1,hb,sizeOf,typeInfo,hq,Addr.add]
theorem yNL {i:Int} {ki:IntKind} {m c s:Nat} (hx:Env.ev E x=some (.slice (some ⟨b,off,none⟩) m c)) (hy:Env.ev E y=some (.int ki i)) [hu:UIs P t (.slice e)] [hi:SzIs P e s] (hb:0≤i∧i≤m∧m≤c∧i<c):Ev P W n E H (.slice t x (some y) none none) (.slice (some ⟨b,off+i.toNat*s,none⟩) (m-i.toNat) (c-i.toNat)):=
 Ev.mk fun o ho a w p _=>by
  have h3:¬ c=i.toNat:=zO;have h4:¬ c≤i.toNat:=zO;have hi:=hi.h;cases hq:P.info? e with
  |none=>simp [hq] at hi
  |some q=>
   have hi:q.size=s:=by simpa [hq] using hi
   have h5:¬ (c-i.toNat=0):=zO;have h6:(m:Int)≤c:=zO;simp [execOp,ho,p.ev hx,p.ev hy,Instr.sliceAt,Instr.slice,run_underlying hu.h,Instr.sliceBounds,Instr.sliceBound,asIntOf,hb,h3,sizeOf,typeInfo,hq,hi,Addr.add_mid]
theorem yR1 {dT sT:TypeId} {m c:Nat} {l:zB} {cs:List Value} (hx:Env.ev E x=some (.slice (some ⟨b,off,none⟩) m c)) (hy:Env.ev E y=some (strV l)) [hu:UIs P dT (.slice e)] [hi:SzIs P e 1] (hs:Sel (yAj b cs T) H R) (hl:l.length≤m) (ak:off+l.length≤cs.length) (hr:Rep (yAj b cs T) (yAj b (lay cs off (bvs l)) T) H H') (hn:Nat.blt d n=true) (h:KJ W n k ((d,.int .i64 l.length)::E) H') :KJ W n (.oper P (.call { callee:=.builtin .copy,args:=#[x,y],argTypes:=#[dT,sT] }) (some d) k) E H:=by
 have bZ:l.take m=l:=zLi hl;refine ⟨fun a w p s o ho hd=>?_⟩;have av:=yI4 (P:=P) w dT sT o.type e b off m c l cs T hu.h hi.h (s.left.blk hs).2 (by rw [bZ];exact ak);rw [bZ] at av;show uponP P o a _ ((execOp a.eval o).run P w);have e2:(execOp a.eval o).run P w=.ok (.value (goInt l.length)) (w.setRow b (lay cs off (bvs l)).toArray):=by have hrun':(Builtin.copy_ #[dT,sT] o.type #[.slice (some ⟨b,off,none⟩) m c,strV l]).run P w=.ok (goInt l.length) (w.setRow b (lay cs off (bvs l)).toArray):=av;simp [execOp,ho,resolve,invoke,builtin,p.ev hx,p.ev hy,hrun',Result.andThen]
 rw [e2];have:=h.go _ _ (p.put (d:=some d) hn (goInt l.length)) (s.setRow (hr.app _));rw [← hd] at this;exact this
end
theorem bvs_length' (l:zB):(bvs l).length=l.length:=by simp [bvs]
theorem yNM (l b:zB) (o:Nat) (h:o+b.length≤l.length):cut (lay l o b) o b.length=b:=by unfold cut lay;rw [List.drop_left' (by simp;omega),List.take_left' rfl]
theorem yEQ (l b:zB) (o p m:Nat) (h:o+b.length≤l.length) (hp:p+m≤o):cut (lay l o b) p m=cut l p m:=by unfold cut lay;rw [List.drop_append_of_le_length (by simp;omega),List.take_append_of_le_length (by simp;omega),List.drop_take,List.take_take,Nat.min_eq_left zO]
theorem yDJ (l b:zB) (o p m:Nat) (h:o+b.length≤l.length) (hp:o+b.length≤p):cut (lay l o b) p m=cut l p m:=by unfold cut lay;rw [← zLd,zLG,zLl (by simp;omega)];simp only [List.nil_append,List.drop_drop];congr 2;simp;omega
theorem yYF (m o n:Nat) (h:o+n≤m):cut (zs m) o n=zs n:=by unfold cut zs;rw [List.drop_replicate,List.take_replicate];congr 1;omega
section
variable {P:Program} {W:World} {n d:Nat} {E:Env} {H H' R:List SP} {t u e:TypeId} {x y z:Operand} {T:TypeId} {b off:Nat} {k:KK}
theorem yPp {dT sT:TypeId} {m c:Nat} {l l0 l':zB} (hx:Env.ev E x=some (.slice (some ⟨b,off,none⟩) m c)) (hy:Env.ev E y=some (strV l)) [hu:UIs P dT (.slice e)] [hi:SzIs P e 1] (hs:Sel (yAj b (bvs l0) T) H R) (hl:l.length≤m) (ak:off+l.length≤l0.length) (he:lay l0 off l=l') (hr:Rep (yAj b (bvs l0) T) (yAj b (bvs l') T) H H') (hn:Nat.blt d n=true) (h:KJ W n k ((d,.int .i64 l.length)::E) H') :KJ W n (.oper P (.call { callee:=.builtin .copy,args:=#[x,y],argTypes:=#[dT,sT] }) (some d) k) E H:=by
 have e1:bvs l'=lay (bvs l0) off (bvs l):=by rw [← he,yJ1]
 rw [e1] at hr;exact yR1 hx hy hs hl (by rw [bvs_length'];exact ak) hr hn h
theorem yNN {s:TypeId} {l:zB} {m c:Nat} (hx:Env.ev E x=some (.slice (zq b) m c)) [hs:UIs P s (.slice e)] [he:UIs P e (.int .u8)] [hd:UIs P u .string] (gG:Sel (yAj b (bvs l) T) H R) (hm:m≤l.length):Ev P W n E H (.convert s u x) (strV (l.take m)):=by have h:=yHj (P:=P) (W:=W) (n:=n) (E:=E) (u:=u) hx (hs:=hs) (he:=he) (hd:=hd) gG zO;rw [zLo] at h;exact h
theorem yCP {s:TypeId} {l:zB} {m c:Nat} (hx:Env.ev E x=some (.slice (zq b) m c)) [hs:UIs P s (.slice e)] [he:UIs P e (.int .u8)] [hd:UIs P u .string] (gG:Sel (yAj b (bvs l) T) H R) (hm:l.length=m):Ev P W n E H (.convert s u x) (strV l):=by have h:=yHj (P:=P) (W:=W) (n:=n) (E:=E) (u:=u) hx (hs:=hs) (he:=he) (hd:=hd) gG zO;rw [zLo,zLi zO] at h;exact h
end
section
variable {P:Program} {W:World} {n:Nat} {E:Env} {H:List SP} {x:Operand}
theorem yAg {s d:TypeId} {ks kd:IntKind} {k:IntKind} {i j:Int} (hx:Env.ev E x=some (.int k i)) [hs:UIs P s (.int ks)] [hd:UIs P d (.int kd)] (h:kd.wrap i=j):Ev P W n E H (.convert s d x) (.int kd j):=by subst h;exact yQr hx
end
theorem xqb {A G:Prop} (g:A) (h:Later A→G:=by
 intro h;first
 |(refine xCN ?_
   first
    |(refine yAu ?_;first|refine yAa (yCP rfl xS zA) ?_|refine yAa (yAg rfl zA) ?_)
    |(refine yAt ?_;first|refine yAa (yBv rfl rfl zA) ?_|refine yAa (yCM rfl rfl zA) ?_)
    |(refine yAJ ?_;first|refine yAa (yAl rfl rfl zA) ?_)
    |(refine yAq ?_;first|refine yAa (yAf rfl rfl zA) ?_)
    |(refine yAI ?_;first|refine yAa (yAp rfl rfl zO zA) ?_)
    |(refine yBz ?_;first|refine yAa (yBd rfl rfl zA) ?_)
    |(refine yAi ?_;first|refine yAa (yDC rfl xS zA) ?_|refine yAa (yAm rfl zA) ?_|refine yAa (yCB rfl xS zA) ?_)
    |(refine yAh ?_;first|refine yAa (yAc rfl rfl zA) ?_)
    |(refine yAo ?_;first|refine yAa (yAz rfl rfl zA) ?_|refine yAa (yBe rfl rfl zA) ?_|refine yAa (yBZ rfl zA) ?_)
   exact h.go)
 |exact xst h.go):G:=h ⟨g⟩
end Go.Proofs.YtoipmnikdiogcaaGreatDoor
