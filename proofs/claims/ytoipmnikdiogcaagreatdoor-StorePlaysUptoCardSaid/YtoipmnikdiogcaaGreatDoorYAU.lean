/-
  Disk2, Disk3, Disk4, Disk5, Disk6.
-/
import Derived.Test.YtoipmnikdiogcaaGreatDoorYAP
import Derived.Deep.Cut
import Derived.Deep.CutBlock
import Derived.Deep.CutRange
import Derived.Outline
import Derived.Maps.RangeWalk
import Derived.StillTailTactics
import Derived.Deep.RegionHeld3
set_option maxRecDepth 100000
set_option maxHeartbeats 64000000
namespace Go.Proofs.YtoipmnikdiogcaaGreatDoor
open Go Go.RowKit
open Go.Proofs.Tryz
theorem yCa:(prog.info? 95).map (·.size)=some 256:=zK
theorem yTS (w:World) (F:Nat→Prop) (p:Nat) (D:Dsk) (hd:DiskAt w F p D) (i:Nat) (ae:D.off=false) (hi:i<D.n) (hl:yDk D.und i=none) :Calls prog 108 #[zPp p,zi i] w fun e w'=>e=.returned (.tuple #[.string ⟨(D.rd i).toArray⟩,.nilIface])∧Fr noB w w':=by
 have am:=hd.good;have aQ:D.has i=true:=by simp [Dsk.has,hi]
 have Hc:=Lib.hid (yIC w F p D hd i);obtain ⟨pd,pm,uv,hp,hpd,hu,hm,hF,hb,-⟩:=hd;have jg:D.rd i=D.sec i:=by rw [Dsk.rd,yO6 _ _ hl];rfl
 have ai:(D.sec i).length=256:=by have:=am.len;exact yBY _ _ _ zO
 have c0:w.cell? ⟨p,0,none⟩=some (.slice (zq pd) D.n D.n):=by rw [hp.cell];rfl
 have c2:w.cell? ⟨p,2,none⟩=some (.map (some pm)):=by rw [hp.cell];rfl
 have c3:w.cell? ⟨p,3,none⟩=some (.bool false):=by rw [hp.cell,← ae];rfl
 have b2:=am.n2;have lp:=hp.lt;have hr:w.rangeAt pd (i*256) (bvs (D.sec i)):=by
  have:=hpd.range (o:=i*256) (n:=256)
  rwa [yMh,yJv] at this
 rw [aQ] at Hc
 have H:Hid (w.rangeAt pd (i*256) (bvs (D.sec i))∧LastAt (w.alloc (.cells (bvs (D.sec i)).toArray 95)) pm D.und∧(D.sec i).length=256∧D.rd i=D.sec i∧yDk D.und i=none):=
  ⟨hr,hm.keep (Below.heap_alloc _ _ _ hm.lt),ai,jg,hl⟩
 clear hp hpd hu hm hF hb am ae aQ hr jg ai hl
 go_enter func108,ntmps108
 go_upto_region 5 with (first|(go_at_call 156;refine Hc.out.mono ?_;rintro e w' ⟨rfl,rfl⟩))
 go_upto_region 6 with (first|((with_reducible refine wpList_load_mid ?_ 95 (.tmp 24) ?_ pd (i*256) ?_ (bvs (D.sec i)) _ H.out.1 underlying95 rfl ?hi ?_);(rfl);(rfl);(rfl))|((with_reducible refine yBG ?_ 95 (.tmp 6) (.tmp 25) ?_ _ (bvs (D.sec i)).toArray _ ?_ ?_ ?hz ?hi2 (yMp _) ?_);(rfl);(rfl);(rfl);(rfl)))
 case hi=>rw [yCa,yBg,H.out.2.2.1]
 case hz=>simp [zeroCells95_size,H.out.2.2.1]
 case hi2=>rw [yCa];simp [H.out.2.2.1]
 go_frame
 go_wp2_with (first|(at_lookup;(with_reducible refine yHH ?_ (.tmp 30) (.tmp 31) ?_ pm D.und i ?_ ?_ H.out.2.1 zO H.out.2.2.2.2 ?_);(rfl);(rfl);(rfl);(rfl))|((with_reducible refine yDd ?_ 69 9 5 (.tmp 44) ?_ underlying69 underlying5 underlying9 w.heap.size 0 256 256 (D.sec i) ?_ H.out.2.2.1.symm ?hc ?_);(rfl);(rfl);(rfl)))
 case hc=>exact yEf _ _ _
 go_ret2
 exact ⟨congrArg (fun l:zB=>Ending.returned (.tuple #[.string ⟨l.toArray⟩,.nilIface])) H.out.2.2.2.1.symm,(Fr.refl _ _).alloc _⟩
theorem yTT (w:World) (F:Nat→Prop) (p:Nat) (D:Dsk) (hd:DiskAt w F p D) (i:Nat) (ae:D.off=false) (hi:i<D.n) (k:Nat) (hl:yDk D.und i=some k) :Calls prog 108 #[zPp p,zi i] w fun e w'=>e=.returned (.tuple #[.string ⟨(D.rd i).toArray⟩,.nilIface])∧Fr noB w w':=by
 have am:=hd.good;have aQ:D.has i=true:=by simp [Dsk.has,hi]
 have Hc:=Lib.hid (yIC w F p D hd i);obtain ⟨pd,pm,uv,hp,hpd,hu,hm,hF,hb,-⟩:=hd;obtain ⟨b,hk,hW⟩:=yO5 _ _ _ hl;have jg:D.rd i=b:=by rw [Dsk.rd,hW];rfl
 have dG:b.length=256:=(am.und _ (zLk hk)).2;have aY:k<D.und.length:=(zLc.1 hk).1;obtain ⟨g,cap,rfl,eF,dt,hgl,hg⟩:=yMy hu am.und k i b hk;have ai:(D.sec i).length=256:=by have:=am.len;exact yBY _ _ _ zO
 have c0:w.cell? ⟨p,0,none⟩=some (.slice (zq pd) D.n D.n):=by rw [hp.cell];rfl
 have c1:w.cell? ⟨p,1,none⟩=some (.slice (zq g) D.und.length cap):=by rw [hp.cell];rfl
 have c2:w.cell? ⟨p,2,none⟩=some (.map (some pm)):=by rw [hp.cell];rfl
 have c3:w.cell? ⟨p,3,none⟩=some (.bool false):=by rw [hp.cell,← ae];rfl
 have b2:=am.n2;have lp:=hp.lt;have hr:w.rangeAt pd (i*256) (bvs (D.sec i)):=by
  have:=hpd.range (o:=i*256) (n:=256)
  rwa [yMh,yJv] at this
 have ed:(w.alloc (.cells (bvs (D.sec i)).toArray 95)).rangeAt g (k*257+1) (bvs b):=by refine World.rangeAt_alloc (fun j v hj=>?_) _;have:=hg (j+1) v (by simpa [yAS] using hj);rw [show k*257+1+j=k*257+(j+1) by omega];exact this
 rw [aQ] at Hc;unfold maxLen at dt
 have H:Hid (w.rangeAt pd (i*256) (bvs (D.sec i))∧LastAt (w.alloc (.cells (bvs (D.sec i)).toArray 95)) pm D.und∧(D.sec i).length=256∧D.rd i=b∧yDk D.und i=some k∧(w.alloc (.cells (bvs (D.sec i)).toArray 95)).rangeAt g (k*257+1) (bvs b)∧b.length=256):=
  ⟨hr,hm.keep (Below.heap_alloc _ _ _ hm.lt),ai,jg,hl,ed,dG⟩
 clear hp hpd hu hm hF hb am ae aQ hr jg ai hl hg ed dG hk hW
 go_enter func108,ntmps108
 go_upto_region 5 with (first|(go_at_call 156;refine Hc.out.mono ?_;rintro e w' ⟨rfl,rfl⟩))
 go_upto_region 6 with (first|((with_reducible refine wpList_load_mid ?_ 95 (.tmp 24) ?_ pd (i*256) ?_ (bvs (D.sec i)) _ H.out.1 underlying95 rfl ?hi ?_);(rfl);(rfl);(rfl))|((with_reducible refine yBG ?_ 95 (.tmp 6) (.tmp 25) ?_ _ (bvs (D.sec i)).toArray _ ?_ ?_ ?hz ?hi2 (yMp _) ?_);(rfl);(rfl);(rfl);(rfl)))
 case hi=>rw [yCa,yBg,H.out.2.2.1]
 case hz=>simp [zeroCells95_size,H.out.2.2.1]
 case hi2=>rw [yCa];simp [H.out.2.2.1]
 go_frame
 go_upto_region 8 with (first|(at_lookup;(with_reducible refine yHI ?_ (.tmp 30) (.tmp 31) ?_ pm D.und i ?_ ?_ H.out.2.1 zO k H.out.2.2.2.2.1 ?_);(rfl);(rfl);(rfl);(rfl)))
 go_upto_region 9 with (first|((with_reducible refine wpList_load_mid ?_ 95 (.tmp 42) ?_ g (k*257+1) ?_ (bvs b) _ H.out.2.2.2.2.2.1 underlying95 rfl ?hi3 ?_);(rfl);(rfl);(rfl))|((with_reducible refine yBG ?_ 95 (.tmp 6) (.tmp 43) ?_ _ (bvs b).toArray _ ?_ ?_ ?hz4 ?hi4 (yMp _) ?_);(rfl);(rfl);(rfl);(rfl)))
 case hi3=>rw [yCa,yBg,H.out.2.2.2.2.2.2]
 case hz4=>simp [H.out.2.2.1,H.out.2.2.2.2.2.2]
 case hi4=>rw [yCa];simp [H.out.2.2.2.2.2.2]
 go_frame
 go_wp2_with (first|((with_reducible refine yDd ?_ 69 9 5 (.tmp 44) ?_ underlying69 underlying5 underlying9 w.heap.size 0 256 256 b ?_ H.out.2.2.2.2.2.2.symm ?hc ?_);(rfl);(rfl);(rfl)))
 case hc=>exact yEf _ _ _
 go_ret2
 exact ⟨congrArg (fun l:zB=>Ending.returned (.tuple #[.string ⟨l.toArray⟩,.nilIface])) H.out.2.2.2.1.symm,(Fr.refl _ _).alloc _⟩
theorem yWO (w:World) (F:Nat→Prop) (p:Nat) (D:Dsk) (E:Nat→Addr) (hd:DiskAt w F p D) (i:Int) (bB:ErrAt w E 12) (ho:D.off=true) :Calls prog 108 #[zPp p,zi i] w fun e w'=>e=.returned (.tuple #[.string ⟨#[]⟩,yAy E 12])∧Fr noB w w':=by
 obtain ⟨c3,-⟩:=hd.cell;have dV:w.cell? ⟨2,0,none⟩=some (yAy E 12):=bB;rw [ho] at c3;clear bB hd ho
 go_enter func108,ntmps108
 go_wp2
 go_quiet (fail)
 all_goals go_wp2
 all_goals go_ret2
 all_goals exact ⟨rfl,(Fr.refl _ _).drewN _⟩
theorem yWP (w:World) (F:Nat→Prop) (p:Nat) (D:Dsk) (E:Nat→Addr) (hd:DiskAt w F p D) (i:Int) (h6:ErrAt w E 6) (ho:D.off=false) (hh:D.has i=false) :Calls prog 108 #[zPp p,zi i] w fun e w'=>e=.returned (.tuple #[.string ⟨#[]⟩,yAy E 6])∧Fr noB w w':=by
 have Hc:=Lib.hid (yIC w F p D hd i);obtain ⟨c3,-⟩:=hd.cell;have e6:w.cell? ⟨0,0,none⟩=some (yAy E 6):=h6;rw [ho] at c3;rw [hh] at Hc;clear h6 hd ho hh
 go_enter func108,ntmps108
 go_wp2_with (first|(go_at_call 156;refine Hc.out.mono ?_;rintro e w' ⟨rfl,rfl⟩))
 go_quiet (fail)
 all_goals go_wp2
 all_goals go_ret2
 all_goals exact ⟨rfl,(Fr.refl _ _).drewN _⟩
theorem yWQ (w:World) (F:Nat→Prop) (p:Nat) (D:Dsk) (E:Nat→Addr) (hd:DiskAt w F p D) (i:Int) (bB:ErrAt w E 12) (h6:ErrAt w E 6) :Calls prog 108 #[zPp p,zi i] w fun e w'=>e=.returned (.tuple #[.string ⟨(D.readS i).toArray⟩,yAy E (D.readE i)])∧Fr noB w w':=by
 by_cases ho:D.off=true
 ·have e1:D.readS i=[]:=by simp [Dsk.readS,ho]
  have e2:D.readE i=12:=by simp [Dsk.readE,ho]
  rw [e1,e2];exact yWO w F p D E hd i bB ho
 have ho:D.off=false:=by simpa using ho
 by_cases hh:D.has i=true
 ·have hi:0≤i∧i<D.n:=by simpa [Dsk.has] using hh
  obtain ⟨j,rfl⟩:=Int.eq_ofNat_of_zero_le hi.1;have e1:D.readS j=D.rd j:=by simp [Dsk.readS,ho,hh]
  have e2:D.readE j=0:=by simp [Dsk.readE,ho,hh]
  rw [e1,e2];cases hl:yDk D.und j with
  |none=>exact yTS w F p D hd j ho zO hl
  |some k=>exact yTT w F p D hd j ho zO k hl
 ·have hh:D.has i=false:=by simpa using hh
  have e1:D.readS i=[]:=by simp [Dsk.readS,ho,hh]
  have e2:D.readE i=6:=by simp [Dsk.readE,ho,hh]
  rw [e1,e2];exact yWP w F p D E hd i h6 ho hh
theorem yID {ops:Array Oper} {rest:List Oper} {o:Oper} {a:Act} {w:World} {Q:Exit→Act→World→Prop} (hg:o.guard=none) (m:Operand) (ho:o.op=.call { callee:=.builtin .clear,args:=#[m],argTypes:=#[91] }) (b:Nat) (u:List (Nat × zB)) (hm:a.eval m=.map (some b)) (hL:LastAt w b u) (hK:∀ w',Hid (LastAt w' b []∧w.grownBy w' (some b))→wpList prog ops Q rest (a.put o.dst (.tuple #[])) w'):wpList prog ops Q (o::rest) a w:=by
 obtain ⟨M,⟨es,clock,hb,_⟩,_⟩:=hL;have hlt:b<w.heap.size:=(zLh.1 hb).1;refine yJp hg m _ _ _ underlying91 ho b es clock hm hb (hK _ ⟨⟨.map [],⟨#[],clock,?_,⟨zLA _,MapKept.stamped_empty _,fun x hx=>by cases hx⟩,Nat.le_refl _,rfl⟩,?_⟩,⟨rfl,rfl,rfl,by simp,?_⟩⟩)
 ·simp [hlt]
 ·intro i;exact ⟨rfl,rfl⟩
 ·intro k hk ao;simp only [ne_eq,Option.some.injEq] at ao;simp [Ne.symm ao]
theorem yJ0 (w:World) (F:Nat→Prop) (p:Nat) (D:Dsk) (hd:DiskAt w F p D) :Calls prog 70 #[zPp p] w fun e w'=>e=.returned (.tuple #[])∧DiskAt w' F p D.clr∧Fr F w w':=by
 obtain ⟨pd,pm,uv,hp,hpd,hu,hm,hF,hb,am⟩:=hd;have c1:w.cell? ⟨p,1,none⟩=some uv:=by rw [hp.cell];rfl
 have c2:w.cell? ⟨p,2,none⟩=some (.map (some pm)):=by rw [hp.cell];rfl
 have f1:=hp.free 1;have H:Hid (Blk w p [.slice (zq pd) D.n D.n,uv,.map (some pm),.bool D.off,zi D.armed,zi D.writes,zi D.flushes,zi D.life] 93∧Blk w pd (bvs D.img) 95∧LastAt w pm D.und∧(F p∧F pd∧F pm∧∀ g,uv.ownBlock=some g→F g)∧(∀ k,F k→gB≤k∧k<w.heap.size)∧D.ok):=⟨hp,hpd,hm,hF,hb,am⟩;have Hm:Hid (LastAt (w.setCell ⟨p,1,none⟩ (.slice none 0 0)) pm D.und):=hm.keep (heap_setCell_other _ _ _ _ (by obtain ⟨_,⟨_,_,h,_⟩,_⟩:=hm;exact hp.ne_map h));clear hp hpd hu hm hF hb am
 go_enter func70,ntmps70
 go_upto_region 1 with (fail)
 go_wp2_with ((with_reducible refine yID ?_ (.tmp 8) ?_ pm D.und ?_ Hm.out ?_);(rfl);(rfl);(rfl);(intro w1 cU))
 go_end0
 obtain ⟨hp,hpd,hm,hF,hb,am⟩:=H;obtain ⟨hm1,hg⟩:=cU;have n1:pd≠p:=hpd.ne hp zX;have n2:pm≠p:=by obtain ⟨_,⟨_,_,h,_⟩,_⟩:=hm;exact hp.ne_map h
 have n3:pm≠pd:=by obtain ⟨_,⟨_,_,h,_⟩,_⟩:=hm;exact hpd.ne_map h
 have hs:(w.setCell ⟨p,1,none⟩ (Value.slice none 0 0)).heap.size=w.heap.size:=by simp [World.setCell]
 have k1:∀ k,k<w.heap.size→k≠pm→w1.heap[k]? = (w.setCell ⟨p,1,none⟩ (Value.slice none 0 0)).heap[k]?:=fun k hk ao=>hg.block k (by rw [hs];exact hk) (by simpa using ao);have jh:=(hp.set 1 (.slice none 0 0)).keep (k1 p hp.lt (Ne.symm n2));refine ⟨rfl,⟨pd,pm,.slice none 0 0,jh,?_,World.ownsRow_nil _ _ _ _,hm1,⟨hF.1,hF.2.1,hF.2.2.1,fun g hg=>by simp [Value.ownBlock] at hg⟩,fun k hk=>⟨(hb k hk).1,Nat.lt_of_lt_of_le (hb k hk).2 (by have:=hg.size;rw [hs] at this;exact this)⟩,Dsk.clr_ok am⟩,?_⟩
 ·exact hpd.keep ((k1 pd hpd.lt (Ne.symm n3)).trans (heap_setCell_other _ _ _ _ n1))
 ·exact ((Fr.refl F w).setCell (.inl hF.1) _).grown hg (fun k hk=>by cases hk;exact .inl hF.2.2.1)
theorem yPk (v:Int):prog.built 126 [(0,zi v)]=some (zi v::bvs (zs 256)).toArray:=zK
theorem yEc:(prog.info? 126).map (·.size)=some 257:=zK
theorem yNH:(prog.info? 5).map (·.size)=some 1:=zK
def yHK (i:Nat):List Value:=.int .i64 i::bvs (zs 256)
theorem yFq (i:Nat):(yHK i).length=257:=by rw [yHK,zLj,yBg,yFY]
theorem yRS (i:Nat):(yHK i).toArray.all (·.oneCell')=true:=by
 rw [Array.all_eq_true_iff_forall_mem];intro v hv;rcases zLm.1 (show v ∈ _::bvs _ by simpa only [List.mem_toArray,yHK] using hv) with h|h
 ·subst h;rfl
 ·exact yFj _ v h
theorem yCc (i:Nat) (s:zB) (hs:s.length=256):(yAS (i,s)).length=257:=by simp [yAS,hs]
theorem yJc (x:Nat × zB):∀ u ∈ yAS x,u.oneCell'=true:=by
 intro v hv;rcases zLm.1 hv with h|h
 ·subst h;rfl
 ·exact yFj _ v h
theorem yZz (i:Nat) (s:zB) (hs:s.length=256):lay (yHK i) 1 (bvs (s.take 256))=yAS (i,s):=by have:s.take 256=s:=zLi zO;rw [this];unfold lay yHK yAS;rw [List.drop_eq_nil_of_le (by rw [zLj,yBg,yBg,yFY];omega)];simp
theorem yHL {w:World} {base:Nat} {e:TypeId} {size:Nat} {v:Value} {n:Nat} {xs:List Value} (h:w.ownsRow base e size v n xs):∃ a c,v=.slice a n c:=by
 rcases h.2 with h|⟨g,cap,aw,hv,_⟩
 ·exact ⟨none,0,by rw [h.1,h.2]⟩
 ·exact ⟨_,_,hv⟩
def grow (F:Nat→Prop) (w w':World):Nat→Prop:=fun k=>F k∨(w.heap.size≤k∧k<w'.heap.size)
def Dsk.push (D:Dsk) (i:Nat) (s:zB):Dsk:={ D with und:=D.und++[(i,s)] }
theorem Dsk.push_ok {D:Dsk} (h:D.ok) (i:Nat) (s:zB) (hi:i<D.n) (hs:s.length=256):(D.push i s).ok:=⟨h.n1,h.n2,h.len,by
 intro x hx;rcases List.mem_append.1 hx with hx|hx
 ·exact h.und x hx
 ·simp at hx;subst hx;exact ⟨hi,hs⟩,h.arm1,h.arm2⟩
theorem xBp {w w1 w3:World} {F:Nat→Prop} {p pd pm:Nat} {uv v':Value} {D:Dsk} {i:Nat} {s:zB} {A B:Obj} (hp:Blk w p [.slice (zq pd) D.n D.n,uv,.map (some pm),.bool D.off,zi D.armed,zi D.writes,zi D.flushes,zi D.life] 93) (hpd:Blk w pd (bvs D.img) 95) (hu:w.ownsRow 0 126 257 uv D.und.length (yDn D.und)) (hm:LastAt w pm D.und) (hF:F p∧F pd∧F pm∧∀ g,uv.ownBlock=some g→F g) (hb:∀ k,F k→gB≤k∧k<w.heap.size) (am:D.ok) (hi:i<D.n) (hs:s.length=256) (cU:LastAt w1 pm (D.und++[(i,s)])∧(w.alloc A).drew.grownBy w1 (some pm)) (hw3:w3.ownsRow 0 126 257 v' (D.und.length+1) (yDn D.und++yAS (i,s))∧(w1.drew.alloc B).grownBy w3 uv.ownBlock∧(v'.ownBlock=uv.ownBlock∨v'.ownBlock=some (w1.drew.alloc B).heap.size)) :DiskAt (w3.setCell ⟨p,1,none⟩ v') (grow F w (w3.setCell ⟨p,1,none⟩ v')) p (D.push i s)∧Fr F w (w3.setCell ⟨p,1,none⟩ v')∧ w3.cell? ⟨p,1,none⟩=some uv∧w3.frozen? ⟨p,1,none⟩=false:=by
 have n1:pd≠p:=hpd.ne hp zX;have n2:pm≠p:=by obtain ⟨_,⟨_,_,h,_⟩,_⟩:=hm;exact hp.ne_map h
 have n3:pm≠pd:=by obtain ⟨_,⟨_,_,h,_⟩,_⟩:=hm;exact hpd.ne_map h
 have n4:∀ g,uv.ownBlock=some g→g≠p:=fun g hg=>hp.ne_row hu hg zX;have n5:∀ g,uv.ownBlock=some g→g≠pd:=fun g hg=>hpd.ne_row hu hg zX;have n6:∀ g,uv.ownBlock=some g→g≠pm:=fun g hg=>by
  obtain ⟨_,⟨_,_,h,_⟩,_⟩:=hm;intro e;subst e;rcases hu.2 with h1|⟨g',cap,aw,hv,_,hh,_⟩
  ·rw [h1.1] at hg;simp [Value.ownBlock] at hg
  ·rw [hv] at hg;simp [Value.ownBlock] at hg;subst hg;rw [h] at hh;cases hh
 obtain ⟨hL,g1⟩:=cU;obtain ⟨ho,g3,eY⟩:=hw3;have s1:w.heap.size+1≤w1.heap.size:=by have:=g1.size;simpa using this
 have s3:w1.heap.size+1≤w3.heap.size:=by have:=g3.size;simpa using this
 have k1:∀ k,k<w.heap.size→k≠pm→w1.heap[k]? = w.heap[k]?:=fun k hk ao=>
  (g1.block k (by simp;omega) (by simpa using ao)).trans (Below.heap_alloc w A k hk)
 have k3:∀ k,k<w1.heap.size→(∀ g,uv.ownBlock=some g→g≠k)→w3.heap[k]? = w1.heap[k]?:=fun k hk ao=>
  (g3.block k (by simp;omega) (by intro e;exact ao k e.symm rfl)).trans (Below.heap_alloc w1.drew B k (by simpa using hk))
 have lp:=hp.lt;have lpd:=hpd.lt;have lpm:=hm.lt;have b3:Blk w3 p _ _:=hp.keep ((k3 p zO (fun g hg=>n4 g hg)).trans (k1 p lp (Ne.symm n2)));have bd3:Blk w3 pd _ _:=hpd.keep ((k3 pd zO (fun g hg=>n5 g hg)).trans (k1 pd lpd (Ne.symm n3)));have L3:LastAt w3 pm _:=hL.keep (k3 pm zO (fun g hg=>n6 g hg));have hs4:(w3.setCell ⟨p,1,none⟩ v').heap.size=w3.heap.size:=by simp [World.setCell]
 have q:∀ k,k≠p→(w3.setCell ⟨p,1,none⟩ v').heap[k]? = w3.heap[k]?:=fun k hk=>heap_setCell_other _ _ _ _ hk;have hv':∀ g,v'.ownBlock=some g→g≠p∧grow F w (w3.setCell ⟨p,1,none⟩ v') g:=fun g hg=>by
  have hlt:=(ho.lt g hg).2;rcases eY with h|h
  ·rw [h] at hg;exact ⟨n4 g hg,.inl (hF.2.2.2 g hg)⟩
  ·rw [h] at hg;simp at hg;exact ⟨zO,.inr ⟨zO,by rw [hs4];exact hlt⟩⟩
 refine ⟨⟨pd,pm,v',b3.set 1 v',bd3.keep (q _ n1),?_,L3.keep (q _ n2),⟨.inl hF.1,.inl hF.2.1,.inl hF.2.2.1,fun g hg=>(hv' g hg).2⟩,?_,Dsk.push_ok am i s hi hs⟩,?_,by rw [b3.cell];rfl,b3.free 1⟩
 ·have e:yDn (D.push i s).und=yDn D.und++yAS (i,s):=by simp [yDn,Dsk.push]
  have e2:(D.push i s).und.length=D.und.length+1:=by simp [Dsk.push]
  rw [e,e2];exact yCO ho (fun g hg=>q g (hv' g hg).1)
 ·intro k hk;have:=hb p hF.1;rcases hk with hk|hk
  ·have:=hb k hk;rw [hs4];omega
  ·rw [hs4] at hk ⊢;omega
 ·have f1:Fr F w w1:=((Fr.refl F w).alloc A).drew.grown g1 (fun k hk=>by cases hk;exact .inl hF.2.2.1);have f3:Fr F w w3:=(f1.drew.alloc B).grown g3 (fun k hk=>.inl (hF.2.2.2 k hk));exact f3.setCell (.inl hF.1) _
theorem yWR (w:World) (F:Nat→Prop) (p:Nat) (D:Dsk) (E:Nat→Addr) (hd:DiskAt w F p D) (i:Nat) (s:zB) (bB:ErrAt w E 12) (ae:D.off=false) (hi:i<D.n) (hs:s.length=256) (aS:D.und.length<1073741824) :Calls prog 124 #[zPp p,zi i,.string ⟨s.toArray⟩] w fun e w'=>e=.returned (yAy E (D.writeE i s))∧∃ F',DiskAt w' F' p (D.writeD i s)∧Fr F w w'∧∀ k,F' k→F k∨w.heap.size≤k:=by
 have am:=hd.good;have aQ:D.has i=true:=by simp [Dsk.has,hi]
 have Hc:=Lib.hid (yIC w F p D hd i);rw [aQ] at Hc;obtain ⟨c3,-⟩:=hd.cell;rw [ae] at c3;have Hs:=Lib.hid hs;have bM:((s.length:Int) != 256)=false:=by rw [hs];rfl
 have jd:=am.n2;obtain ⟨pd,pm,uv,hp,hpd,hu,hm,hF,hb,-⟩:=hd;have c1:w.cell? ⟨p,1,none⟩=some uv:=by rw [hp.cell];rfl
 have c2:w.cell? ⟨p,2,none⟩=some (.map (some pm)):=by rw [hp.cell];rfl
 have huv:∃ a c,uv=.slice a D.und.length c:=by
  rcases hu.2 with h|⟨g,cap,aw,hv,_⟩
  ·exact ⟨none,0,by rw [h.1,h.2]⟩
  ·exact ⟨_,_,hv⟩
 obtain ⟨ua,uc,rfl⟩:=huv;have lp:=hp.lt;have lm:=hm.lt;have npm:pm≠p:=by obtain ⟨_,⟨_,_,h,_⟩,_⟩:=hm;exact hp.ne_map h
 have f1:=hp.free 1;have jI:=Lib.hid ae;have Hp:=Lib.hid hF.1;have HD:=Lib.hid (And.intro hp (And.intro hpd (And.intro hu (And.intro hm (And.intro hF (And.intro hb am))))))
 have HU:Hid (w.ownsRow 0 126 257 (.slice ua D.und.length uc) D.und.length (yDn D.und)∧∀ g,(Value.slice ua D.und.length uc).ownBlock=some g→g<w.heap.size∧g≠pm):=
  ⟨hu,fun g hg=>⟨(hu.lt g hg).2,by
   obtain ⟨_,⟨_,_,h,_⟩,_⟩:=hm;intro e;subst e;rcases hu.2 with h1|⟨g',cap,aw,hv,_,hh,_⟩
   ·rw [h1.1] at hg;simp [Value.ownBlock] at hg
   ·rw [hv] at hg;simp [Value.ownBlock] at hg;subst hg;rw [h] at hh;cases hh⟩⟩
 have HL:Hid (LastAt (w.alloc (.cells (yAS (i,s)).toArray 126)).drew pm D.und):=hm.keep (Below.heap_alloc _ _ _ hm.lt);clear am aQ ae hs hp hpd hu hm hF hb
 go_enter func124,ntmps124
 go_upto_region 7 with (first|(go_at_call 156;refine Hc.out.mono ?_;rintro e w' ⟨rfl,rfl⟩))
 go_upto_region 8 with (first|((with_reducible refine yFZ ?_ 126 [(0,.tmp 22)] ?_ (yHK i).toArray ?_ ?_);(rfl);(rfl);(exact yPk i))|((with_reducible refine yBG ?_ 126 (.tmp 7) (.tmp 23) ?_ _ (yHK i).toArray _ ?_ ?_ (by rw [zeroCells126_size,List.size_toArray,yFq]) (by rw [yEc,List.size_toArray,yFq]) (yRS i) ?_);(rfl);(rfl);(rfl);(rfl)))
 go_frame
 go_upto_region 9 with (first|((with_reducible refine yHi ?_ (.tmp 25) (.tmp 26) 69 9 5 ?_ underlying69 yNH 1 256 256 s (yHK i) (yAS (i,s)) _ ?_ ?_ (by rw [yFq];simp [Hs.out]) (yZz i s Hs.out) ?_);(rfl);(rfl);(rfl);(rfl)))
 go_frame
 refine yLs 10 zK zK ?_;simp only [List.take_succ_cons,List.take_zero,List.drop_succ_cons,zLo]
 repeat still_step
 refine wpStill_nil ?_
 (with_reducible refine yHJ ?_ (.tmp 31) (.tmp 32) (.tmp 37) ?_ pm D.und i s ?_ ?_ ?_ HL.out zO aS ?_);rfl;rfl;rfl;rfl;rfl
 intro w1 cU;have bu:(w.alloc (.cells (yAS (i,s)).toArray 126)).drew.heap.size=w.heap.size+1:=zW;have hk:∀ k,k≤w.heap.size→k≠pm→w1.heap[k]? = (w.alloc (.cells (yAS (i,s)).toArray 126)).heap[k]?:=fun k h1 h2=>cU.out.2.block k (by rw [bu];omega) (by simpa using h2);have d1:w1.cell? ⟨p,1,none⟩=some (.slice ua D.und.length uc):=by rw [World.cell?_of_block (hk p zO zO),← c1];exact World.cell?_of_block (Below.heap_alloc _ _ _ lp)
 have e1:w1.frozen? ⟨p,1,none⟩=false:=by rw [World.frozen?_of_block (hk p zO zO),← f1];exact World.frozen?_of_block (Below.heap_alloc _ _ _ lp)
 have Hr:Hid (w1.rangeAt w.heap.size 0 (yAS (i,s))):=fun j v hj=>(World.cell?_of_block (w:=w.alloc _) (hk w.heap.size zO zO)).trans (yEf w _ _ j v hj);have ez:p<w1.heap.size:=by have:=cU.out.2.size;rw [bu] at this;omega
 have HO:Hid ((w1.drew.alloc (.cells (yAS (i,s)).toArray 126)).ownsRow 0 126 257 (.slice ua D.und.length uc) D.und.length (yDn D.und)):=by refine yCO (w:=w) HU.out.1 (fun g hg=>?_);have h2:=HU.out.2 g hg;have h3:=cU.out.2.size;rw [bu] at h3;exact (Below.heap_alloc w1.drew _ g (by simpa using (by omega:g<w1.heap.size))).trans ((hk g zO h2.2).trans (Below.heap_alloc _ _ _ h2.1))
 have Hk:=Lib.hid hk;clear hk
 go_upto_region 10 with (fail)
 refine yDl 6 7 (fun w'=>w'.cell? ⟨p,1,none⟩=some (.slice ua D.und.length uc)∧w'.rangeAt w.heap.size 0 (yAS (i,s))) zK ?hBB ?hQQ ?hSS ?hMM
 case hBB=>kernel_rfl
 case hQQ=>intro c a d v w h;cases d <;> exact h
 case hSS=>exact ⟨d1,Hr.out⟩
 simp only [List.take_succ_cons,List.take_zero,List.drop_succ_cons,zLo,Nat.reduceSub];refine yDe rfl _ rfl (zPp p) rfl ?_
 go_frame
 refine yDe rfl _ rfl (zPp p) rfl ?_
 go_frame
 refine yA9 rfl rfl (zPp p) (fun w'=>by go_simp) ?_
 go_frame
 refine yA9 rfl rfl (.pointer (some ⟨p,1,none⟩)) (fun w'=>by go_simp) ?_
 go_frame
 refine yCJ rfl rfl (.slice ua D.und.length uc) (fun w' hS=>by have kq:=hS.1;clear hS;go_simp) ?_
 go_frame
 refine yEl rfl 126 (.tmp 7) rfl w.heap.size 0 rfl (yAS (i,s)) _ (fun w' hS=>hS.2) underlying126 rfl (by rw [yEc,yCc _ _ Hs.out]) ?_
 go_frame
 unfold yEk;refine yPe rfl (yIz 90 126 (.tmp 43) rfl underlying90 257 zK (.agg (yAS (i,s)).toArray) rfl (yAS (i,s)).toArray rfl (by rw [List.size_toArray,yCc _ _ Hs.out]) zO zO ⟨?_,?_⟩)
 ·exact ⟨(World.cell?_of_block (w:=w1.drew) (Below.heap_alloc _ _ _ (by have:=ez;simpa using this))).trans d1,World.rangeAt_alloc Hr.out _⟩
 unfold yEZ
 go_frame
 have hB:(w1.drew.alloc (.cells (yAS (i,s)).toArray 126)).rangeAt w1.heap.size 0 (yAS (i,s)):=yEf w1.drew _ _
 (with_reducible refine yEX ?_ (.tmp 42) (.tmp 44) 90 126 ?_ underlying90 257 264 zK zO (.slice ua D.und.length uc) D.und.length (yDn D.und) ?_ HO.out w1.heap.size 0 1 1 (yAS (i,s)) ?_ (by rw [yCc _ _ Hs.out]) hB (yJc _) (by unfold maxLen;omega) zO ?_);rfl;rfl;rfl;rfl
 intro vn w3 hw3;obtain ⟨va,vc,rfl⟩:=yHL hw3.out.1;have HP:=Lib.hid (xBp HD.out.1 HD.out.2.1 HD.out.2.2.1 HD.out.2.2.2.1 HD.out.2.2.2.2.1 HD.out.2.2.2.2.2.1 HD.out.2.2.2.2.2.2 hi Hs.out cU.out hw3.out);have d3:=HP.out.2.2.1;have e3:=HP.out.2.2.2
 go_frame
 go_upto_region 11 with (fail)
 obtain ⟨D1,aL⟩:∃ D1,D1=D.push i s:=⟨_,rfl⟩;obtain ⟨w4,hw4⟩:∃ w4,w4=w3.setCell ⟨p,1,none⟩ (.slice va (D.und.length+1) vc):=⟨_,rfl⟩;have G:=yMz w4 (grow F w w4) p D1 (by rw [hw4,aL];exact HP.out.1);rw [← hw4];have fY:D1.dead=D.dead:=by rw [aL];rfl
 rw [fY] at G;have HF4:Hid (Fr F w w4):=by rw [hw4];exact HP.out.2.1
 have HD1:=Lib.hid aL;have h12':=bB;have kQ:ErrAt w4 E 12:=bB.keep HF4.out (fun k hk=>(HD.out.2.2.2.2.2.1 k hk).1) zX;have HE:Hid (D.writeE i s=if D.dead then 12 else 0):=by
  have h1:D.off=false:=jI.out;have h2:D.has i=true:=by simp [Dsk.has,hi]
  show _=_;simp [Dsk.writeE,h1,h2,Hs.out]
 have HW:Hid (D.writeD i s=if D.dead then D1.gone else { D1.gone with writes:=w64 (D1.gone.writes+1) }):=by
  have h1:D.off=false:=jI.out;have h2:D.has i=true:=by simp [Dsk.has,hi]
  show _=_;rw [HD1.out];simp [Dsk.writeD,h1,h2,Hs.out,Dsk.push]
 have Hgr:Hid (∀ w',Fr (grow F w w4) w4 w'→Fr F w w'):=fun w' h=>HF4.out.trans h (fun k hk=>hk.imp id (fun q=>q.1));have Hb:=Lib.hid HD.out.2.2.2.2.2.1;clear aL fY hw4 HP hw3 cU HO d1 e1 d3 e3 c1 c2 c3 f1 HL HU h12' HD hB;by_cases aK:D.dead=true
 ·rw [aK] at G;have GH:=Lib.hid G;have Hdead:=Lib.hid aK;have H12:=Lib.hid kQ;clear G aK kQ
  go_upto_region 12 with (go_at_call 170;refine GH.out.mono ?_;rintro e w5 ⟨rfl,hd5⟩;have Hd5:=Lib.hid hd5;have dV:w5.cell? ⟨2,0,none⟩=some (yAy E 12):=(H12.out.keep hd5.2 (fun k hk=>by rcases hk with hk|hk;exact (Hb.out k hk).1;have:=(Hb.out p Hp.out).1;omega) zX);clear hd5)
  go_wp2
  go_ret
  refine ⟨show Ending.returned (yAy E 12)=.returned (yAy E (D.writeE i s)) from by rw [HE.out,Hdead.out];rfl,grow F w w4,?_,Hgr.out _ Hd5.out.2,fun k hk=>hk.imp id (fun q=>q.1)⟩;rw [HW.out,Hdead.out];exact Hd5.out.1
 ·have aK:D.dead=false:=by simpa using aK
  rw [aK] at G;have GH:=Lib.hid G;have Hdead:=Lib.hid aK;clear G aK kQ
  go_upto_region 13 with (go_at_call 170;refine GH.out.mono ?_;rintro e w5 ⟨rfl,hd5⟩;have c5:=hd5.1.cell.2.2.1;have f5:=hd5.1.cell.2.2.2.2.2 5;have Hd5:=Lib.hid hd5;clear hd5)
  go_wp2
  go_ret
  refine ⟨show Ending.returned Value.nilIface=.returned (yAy E (D.writeE i s)) from by rw [HE.out,Hdead.out];rfl,grow F w w4,?_,Hgr.out _ (Hd5.out.2.setCell (.inl (.inl Hp.out)) _),fun k hk=>hk.imp id (fun q=>q.1)⟩;rw [HW.out,Hdead.out];simp only [Bool.false_eq_true,if_false];refine Hd5.out.1.store 5 _ _ rfl rfl rfl (fun a u m=>?_) ?_
  ·rfl
  ·have:=Hd5.out.1.good;exact ⟨this.n1,this.n2,this.len,this.und,this.arm1,this.arm2⟩
theorem yTU (w:World) (F:Nat→Prop) (p:Nat) (D:Dsk) (E:Nat→Addr) (hd:DiskAt w F p D) (i:Int) (s:zB) (bB:ErrAt w E 12) (ho:D.off=true) :Calls prog 124 #[zPp p,zi i,.string ⟨s.toArray⟩] w fun e w'=>e=.returned (yAy E 12)∧w=w':=by
 obtain ⟨c3,-⟩:=hd.cell;have dV:w.cell? ⟨2,0,none⟩=some (yAy E 12):=bB;rw [ho] at c3;clear bB hd ho
 go_enter func124,ntmps124
 go_wp2
 all_goals go_ret
 all_goals exact ⟨rfl,rfl⟩
theorem yTV (w:World) (F:Nat→Prop) (p:Nat) (D:Dsk) (E:Nat→Addr) (hd:DiskAt w F p D) (i:Int) (s:zB) (h6:ErrAt w E 6) (ho:D.off=false) (hh:D.has i=false) :Calls prog 124 #[zPp p,zi i,.string ⟨s.toArray⟩] w fun e w'=>e=.returned (yAy E 6)∧w=w':=by
 have Hc:=Lib.hid (yIC w F p D hd i);obtain ⟨c3,-⟩:=hd.cell;have e6:w.cell? ⟨0,0,none⟩=some (yAy E 6):=h6;rw [ho] at c3;rw [hh] at Hc;clear h6 hd ho hh
 go_enter func124,ntmps124
 go_wp2_with (first|(go_at_call 156;refine Hc.out.mono ?_;rintro e w' ⟨rfl,rfl⟩))
 all_goals go_ret
 all_goals exact ⟨rfl,rfl⟩
theorem yRT (w:World) (F:Nat→Prop) (p:Nat) (D:Dsk) (E:Nat→Addr) (hd:DiskAt w F p D) (i:Int) (s:zB) (h7:ErrAt w E 7) (ho:D.off=false) (hh:D.has i=true) (hs:s.length≠256) :Calls prog 124 #[zPp p,zi i,.string ⟨s.toArray⟩] w fun e w'=>e=.returned (yAy E 7)∧w=w':=by
 have Hc:=Lib.hid (yIC w F p D hd i);obtain ⟨c3,-⟩:=hd.cell;have e7:w.cell? ⟨14,0,none⟩=some (yAy E 7):=h7;rw [ho] at c3;rw [hh] at Hc;have bM:((s.length:Int) != 256)=true:=by rw [bne_iff_ne];omega
 clear h7 hd ho hh hs
 go_enter func124,ntmps124
 go_wp2_with (first|(go_at_call 156;refine Hc.out.mono ?_;rintro e w' ⟨rfl,rfl⟩))
 all_goals go_ret
 all_goals exact ⟨rfl,rfl⟩
theorem yTW (w:World) (F:Nat→Prop) (p:Nat) (D:Dsk) (E:Nat→Addr) (hd:DiskAt w F p D) (i:Int) (s:zB) (bB:ErrAt w E 12) (h6:ErrAt w E 6) (h7:ErrAt w E 7) (aS:D.und.length<1073741824) :Calls prog 124 #[zPp p,zi i,.string ⟨s.toArray⟩] w fun e w'=>e=.returned (yAy E (D.writeE i s))∧∃ F',DiskAt w' F' p (D.writeD i s)∧Fr F w w'∧∀ k,F' k→F k∨w.heap.size≤k:=by
 have same:∀ e w',e=w→w=w'→∀ D',D'=D→∃ F',DiskAt w' F' p D'∧Fr F w w'∧∀ k,F' k→F k∨w.heap.size≤k:=by
  rintro _ w'-rfl _ rfl
  exact ⟨F,hd,Fr.refl _ _,fun k hk=>.inl hk⟩
 by_cases ho:D.off=true
 ·have e1:D.writeE i s=12:=by simp [Dsk.writeE,ho]
  have e2:D.writeD i s=D:=by simp [Dsk.writeD,ho]
  rw [e1,e2];refine (yTU w F p D E hd i s bB ho).mono ?_
  rintro e w' ⟨rfl,h⟩
  exact ⟨rfl,same w w' rfl h _ rfl⟩
 have ho:D.off=false:=by simpa using ho
 by_cases hh:D.has i=true
 ·by_cases hs:s.length=256
  ·have hi:0≤i∧i<D.n:=by simpa [Dsk.has] using hh
   obtain ⟨j,rfl⟩:=Int.eq_ofNat_of_zero_le hi.1;exact yWR w F p D E hd j s bB ho zO hs aS
  ·have e1:D.writeE i s=7:=by simp [Dsk.writeE,ho,hh,hs]
   have e2:D.writeD i s=D:=by simp [Dsk.writeD,ho,hh,hs]
   rw [e1,e2];refine (yRT w F p D E hd i s h7 ho hh hs).mono ?_
   rintro e w' ⟨rfl,h⟩
   exact ⟨rfl,same w w' rfl h _ rfl⟩
 ·have hh:D.has i=false:=by simpa using hh
  have e1:D.writeE i s=6:=by simp [Dsk.writeE,ho,hh]
  have e2:D.writeD i s=D:=by simp [Dsk.writeD,ho,hh]
  rw [e1,e2];refine (yTV w F p D E hd i s h6 ho hh).mono ?_
  rintro e w' ⟨rfl,h⟩
  exact ⟨rfl,same w w' rfl h _ rfl⟩
structure Flushing (w:World) (F:Nat→Prop) (p pd pm:Nat) (uv:Value) (D:Dsk) (img:zB) (wr:World):Prop where
 hp:Blk wr p [.slice (zq pd) D.n D.n,uv,.map (some pm),.bool D.off,zi D.armed,zi D.writes,zi D.flushes,zi D.life] 93
 hpd:Blk wr pd (bvs img) 95
 hu:wr.ownsRow 0 126 257 uv D.und.length (yDn D.und)
 hm:LastAt wr pm D.und
 fr:Fr F w wr
theorem yJ1 (img b:zB) (o:Nat):lay (bvs img) o (bvs b)=bvs (lay img o b):=by simp [lay,bvs,List.map_take,List.map_drop]
theorem Flushing.next {w wr:World} {F:Nat→Prop} {p pd pm:Nat} {uv:Value} {D:Dsk} {img:zB} (h:Flushing w F p pd pm uv D img wr) (hF:F pd) (O:Obj) (j:Nat) (b:zB) :Flushing w F p pd pm uv D (lay img j b) ((wr.alloc O).drew.setRow pd (bvs (lay img j b)).toArray):=by
 obtain ⟨hp,hpd,hu,hm,fr⟩:=h;have n1:p≠pd:=hp.ne hpd zX;have n3:pm≠pd:=by obtain ⟨_,⟨_,_,h,_⟩,_⟩:=hm;exact hpd.ne_map h
 have k:∀ i,i<wr.heap.size→i≠pd→((wr.alloc O).drew.setRow pd (bvs (lay img j b)).toArray).heap[i]? = wr.heap[i]?:=fun i h1 h2=>
  (setRow_other _ _ _ _ h2).trans (Below.heap_alloc _ _ _ h1)
 have kK:Blk (wr.alloc O).drew pd (bvs img) 95:=hpd.keep (Below.heap_alloc _ _ _ hpd.lt);exact ⟨hp.keep (k p hp.lt n1),kK.row _,yCO hu (fun g hg=>k g (hu.lt g hg).2 (hpd.ne_row hu hg zX)),hm.keep (k pm hm.lt n3),((fr.alloc _).drew).setRow (.inl hF) _⟩
theorem yTX (x:Nat × zB):(yAS x).toArray.all (·.oneCell')=true:=by rw [Array.all_eq_true_iff_forall_mem];intro v hv;exact yJc x v (by simpa using hv)
theorem yWS (w:World) (F:Nat→Prop) (p:Nat) (D:Dsk) (hd:DiskAt w F p D) (ae:D.off=false) (aK:D.dead=false) (aS:D.und.length<1073741824) :Calls prog 125 #[zPp p] w fun e w'=>e=.returned .nilIface∧DiskAt w' F p D.flushD∧Fr F w w':=by
 have HG:=Lib.hid (yMz w F p D hd);obtain ⟨c3,-⟩:=hd.cell;rw [ae] at c3;rw [aK] at HG;have HR:Hid (D.flushD={ D.gone with img:=yBD D.img D.und,und:=[],flushes:=w64 (D.flushes+1) }):=by show _=_;simp [Dsk.flushD,ae,aK]
 clear hd ae aK
 go_enter func125,ntmps125
 go_upto_region 3 with (go_at_call 170;refine HG.out.mono ?_;rintro e w1 ⟨rfl,iJ⟩;have Hd1:=Lib.hid iJ;clear iJ)
 obtain ⟨iJ,iT⟩:=Hd1;obtain ⟨pd,pm,uv,hp,hpd,hu,hm,hF,hb,am⟩:=iJ;obtain ⟨ua,uc,rfl⟩:=yHL hu;have c1:w1.cell? ⟨p,1,none⟩=some (.slice ua D.gone.und.length uc):=by rw [hp.cell];rfl
 have hul':D.gone.und.length<1073741824:=by rw [Dsk.gone_und];exact aS
 have HI:=Lib.hid (And.intro hF (And.intro hb am));have HI0:=Lib.hid (Flushing.mk (w:=w1) (F:=F) (img:=D.gone.img) hp hpd hu hm (Fr.refl F w1));have Hf1:=Lib.hid iT;clear hp hpd hu hm hF hb am iT c3
 go_wp2_with (fail)
 go_loopw [19] (fun x wr=>∃ k:Nat,k≤D.gone.und.length∧x=.int .i64 k∧Hid (Flushing w1 F p pd pm (.slice ua D.gone.und.length uc) D.gone (yBD D.gone.img (D.gone.und.take k)) wr)) (fun x _=>D.gone.und.length-(intOf x).toNat)
 case atStart=>exact ⟨0,zLA _,rfl,by rw [List.take_zero];exact HI0.out⟩
 case round=>
  obtain ⟨k,hk,rfl,HK⟩:=hrel;have aP:=HI.out.2.2;have b2:=aP.n2;by_cases hlt:k<D.gone.und.length
  ·obtain ⟨j,b,i7⟩:∃ j b,D.gone.und[k]? = some (j,b):=⟨(D.gone.und[k]).1,(D.gone.und[k]).2,by rw [zLb hlt]⟩;have km:=aP.und _ (zLk i7);have hj:j<D.gone.n:=km.1;have Hbl:Hid (b.length=256):=km.2;obtain ⟨g,cap,hv,eF,dt,hgl,hg⟩:=yMy HK.out.hu aP.und k j b i7;cases hv;unfold maxLen at dt;have c0:wr.cell? ⟨p,0,none⟩=some (.slice (zq pd) D.gone.n D.gone.n):=by rw [HK.out.hp.cell];rfl
   have lpr:=HK.out.hp.lt;have Hg:=Lib.hid hg;have Hkj:=Lib.hid i7;clear aP km hg i7;have HS:Hid ((wr.alloc (.cells (yAS (j,b)).toArray 126)).drew.cell? ⟨p,0,none⟩=some (.slice (zq pd) D.gone.n D.gone.n)∧(wr.alloc (.cells (yAS (j,b)).toArray 126)).drew.cell? ⟨wr.heap.size,0,none⟩=some (zi j)∧(wr.alloc (.cells (yAS (j,b)).toArray 126)).drew.rangeAt wr.heap.size 1 (bvs b)):=by have hrn:=yEf wr (yAS (j,b)) 126;refine ⟨(World.cell?_of_block (w:=wr) (Below.heap_alloc _ _ _ lpr)).trans c0,hrn 0 _ rfl,fun z v hz=>?_⟩;have:=hrn (z+1) v (by simpa [yAS] using hz);rw [show 1+z=0+(z+1) by omega];exact this
   have HB2:Hid (Blk (wr.alloc (.cells (yAS (j,b)).toArray 126)).drew pd (bvs (yBD D.gone.img (D.gone.und.take k))) 95):=HK.out.hpd.keep (Below.heap_alloc _ _ _ HK.out.hpd.lt);have Hlen:Hid ((yBD D.gone.img (D.gone.und.take k)).length=256*D.gone.n):=yD2 _ _ _ HI.out.2.2.len (fun x hx=>HI.out.2.2.und x (List.mem_of_mem_take hx))
   go_upto_region 6 with (first|((with_reducible refine wpList_load_mid ?_ 126 (.tmp 21) ?_ g (k*257) ?_ (yAS (j,b)) _ Hg.out underlying126 rfl (by rw [yEc,yCc _ _ Hbl.out]) ?_);(rfl);(rfl);(rfl))|((with_reducible refine yBG ?_ 126 (.tmp 4) (.tmp 22) ?_ _ (yAS (j,b)).toArray _ ?_ ?_ (by rw [zeroCells126_size,List.size_toArray,yCc _ _ Hbl.out]) (by rw [yEc,List.size_toArray,yCc _ _ Hbl.out]) (yTX _) ?_);(rfl);(rfl);(rfl);(rfl)))
   go_frame
   refine yDl 9 9 (fun w'=>w'.cell? ⟨p,0,none⟩=some (.slice (zq pd) D.gone.n D.gone.n)∧w'.cell? ⟨wr.heap.size,0,none⟩=some (zi j)∧w'.rangeAt wr.heap.size 1 (bvs b)) zK ?hBB ?hQQ ?hSS ?hMM
   case hBB=>kernel_rfl
   case hQQ=>intro c a d v w h;cases d <;> exact h
   case hSS=>exact HS.out
   simp only [List.take_succ_cons,List.take_zero,List.drop_succ_cons,zLo,Nat.reduceSub];refine yDe rfl _ rfl (zPp p) rfl ?_
   go_frame
   refine yA9 rfl rfl (zPp p) (fun w'=>by go_simp) ?_
   go_frame
   refine yA9 rfl rfl (zPp p) (fun w'=>by go_simp) ?_
   go_frame
   refine yCJ rfl rfl (.slice (zq pd) D.gone.n D.gone.n) (fun w' hS=>by have kq:=hS.1;clear hS;go_simp) ?_
   go_frame
   refine yA9 rfl rfl (.pointer (some ⟨wr.heap.size,0,none⟩)) (fun w'=>by go_simp) ?_
   go_frame
   refine yCJ rfl rfl (zi j) (fun w' hS=>by have kq:=hS.2.1;clear hS;go_simp) ?_
   go_frame
   refine yA9 rfl rfl (.pointer (some ⟨wr.heap.size,1,none⟩)) (fun w'=>by go_simp) ?_
   go_frame
   refine yEl rfl 95 (.tmp 29) rfl wr.heap.size 1 rfl (bvs b) _ (fun w' hS=>hS.2.2) underlying95 rfl (by rw [yCa,yBg,Hbl.out]) ?_
   go_frame
   refine yA9 rfl rfl (.pointer (some ⟨pd,j*256,none⟩)) (fun w'=>by go_simp) ?_
   go_frame
   unfold yEk yEZ
   (with_reducible refine yFM ?_ 95 (.tmp 31) (.tmp 30) ?_ pd (j*256) _ (bvs b) 95 ?_ ?_ HB2.out (by rw [yBg,yBg,Hlen.out,Hbl.out];omega) (by rw [yCa,yBg,Hbl.out]) (yFj _) ?_);rfl;rfl;rfl;rfl
   go_wp2
   go_roundw
   case rel=>
    refine ⟨k+1,zO,by go_num,?_⟩;have:=HK.out.next HI.out.1.2.1 (.cells (yAS (j,b)).toArray 126) (j*256) b;rw [yJS _ _ _ _ _ Hkj.out,yJ1];exact this
   case measure=>simp [intOf];omega
  ·have dv:k=D.gone.und.length:=by omega
   obtain ⟨Df,kI⟩:∃ Df:Dsk,Df={ D.gone with img:=yBD D.gone.img D.gone.und }:=⟨_,rfl⟩;have ai:(yBD D.gone.img D.gone.und).length=256*D.gone.n:=yD2 _ _ _ aP.len aP.und;have hdr:DiskAt wr F p Df:=by have aW:=HK.out;rw [dv,List.take_length] at aW;rw [kI];exact ⟨pd,pm,_,aW.hp,aW.hpd,aW.hu,aW.hm,HI.out.1,fun i hi=>⟨(HI.out.2.1 i hi).1,Nat.lt_of_lt_of_le (HI.out.2.1 i hi).2 aW.fr.size⟩,⟨aP.n1,aP.n2,ai,aP.und,aP.arm1,aP.arm2⟩⟩
   have HSt:=Lib.hid (yJ0 wr F p Df hdr);have HDf:Hid (D.flushD={ Df.clr with flushes:=w64 (Df.clr.flushes+1) }):=by show _=_;rw [HR.out,kI];simp only [Dsk.clr,Dsk.gone_und,Dsk.gone_img,Dsk.gone_flushes]
   have HFr:Hid (Fr F w wr):=Hf1.out.trans' HK.out.fr;clear aP dv kI ai hdr HK
   go_upto_region 10 with (go_at_call 70;refine HSt.out.mono ?_;rintro e w2 ⟨rfl,cV⟩;have c6:=cV.1.cell.2.2.2.1;have f6:=cV.1.cell.2.2.2.2.2 6;have Hd2:=Lib.hid cV;clear cV)
   go_wp2
   go_ret
   refine ⟨rfl,?_,(HFr.out.trans' Hd2.out.2).setCell (.inl HI.out.1.1) _⟩;rw [HDf.out];refine Hd2.out.1.store 6 _ _ rfl rfl rfl (fun a u m=>rfl) ?_;have:=Hd2.out.1.good;exact ⟨this.n1,this.n2,this.len,this.und,this.arm1,this.arm2⟩
theorem yRU (w:World) (F:Nat→Prop) (p:Nat) (D:Dsk) (E:Nat→Addr) (hd:DiskAt w F p D) (bB:ErrAt w E 12) (ae:D.off=false) (aK:D.dead=true) :Calls prog 125 #[zPp p] w fun e w'=>e=.returned (yAy E 12)∧DiskAt w' F p D.gone∧Fr F w w':=by
 have HG:=Lib.hid (yMz w F p D hd);have HB:=Lib.hid hd.bound;obtain ⟨c3,-⟩:=hd.cell;rw [ae] at c3;rw [aK] at HG;have H12:=Lib.hid bB;clear hd ae aK bB
 go_enter func125,ntmps125
 go_upto_region 2 with (go_at_call 170;refine HG.out.mono ?_;rintro e w1 ⟨rfl,iJ⟩;have dV:w1.cell? ⟨2,0,none⟩=some (yAy E 12):=H12.out.keep iJ.2 (fun k hk=>(HB.out k hk).1) zX;have Hd1:=Lib.hid iJ;clear iJ)
 go_wp2
 go_ret
 exact ⟨rfl,Hd1.out⟩
theorem yTY (w:World) (F:Nat→Prop) (p:Nat) (D:Dsk) (E:Nat→Addr) (hd:DiskAt w F p D) (bB:ErrAt w E 12) (ae:D.off=true) :Calls prog 125 #[zPp p] w fun e w'=>e=.returned (yAy E 12)∧w=w':=by
 obtain ⟨c3,-⟩:=hd.cell;rw [ae] at c3;have dV:w.cell? ⟨2,0,none⟩=some (yAy E 12):=bB;clear hd ae bB
 go_enter func125,ntmps125
 go_wp2
 all_goals go_ret
 all_goals exact ⟨rfl,rfl⟩
theorem yTZ (w:World) (F:Nat→Prop) (p:Nat) (D:Dsk) (E:Nat→Addr) (hd:DiskAt w F p D) (bB:ErrAt w E 12) (aS:D.und.length<1073741824) :Calls prog 125 #[zPp p] w fun e w'=>e=.returned (yAy E D.flushE)∧DiskAt w' F p D.flushD∧Fr F w w':=by
 cases ae:D.off
 ·cases aK:D.dead
  ·have e1:D.flushE=0:=by simp [Dsk.flushE,ae,aK]
   rw [e1];exact yWS w F p D hd ae aK aS
  ·have e1:D.flushE=12:=by simp [Dsk.flushE,ae,aK]
   have e2:D.flushD=D.gone:=by simp [Dsk.flushD,ae,aK]
   rw [e1,e2];exact yRU w F p D E hd bB ae aK
 ·have e1:D.flushE=12:=by simp [Dsk.flushE,ae]
  have e2:D.flushD=D:=by simp [Dsk.flushD,ae]
  rw [e1,e2];refine (yTY w F p D E hd bB ae).mono ?_
  rintro e w' ⟨rfl,rfl⟩
  exact ⟨rfl,hd,Fr.refl _ _⟩
end Go.Proofs.YtoipmnikdiogcaaGreatDoor
