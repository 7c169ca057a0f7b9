/-
  Disk0, Disk1, Disk2, Disk3, Disk4.
-/
import Derived.Test.YtgipenahkmbelaaGreatDoorTAH
import Derived.Test.YtgipenahkmbelaaGreatDoorProg
import Derived.WalkKit
import Derived.WalkLawsBesides
import Derived.WalkSpells
import Derived.Maps.OwnSet
import Derived.KernelRfl
import Derived.BigQuiet
import Derived.Deep.QuietTactic
import Derived.Lib.Hide
import Derived.Deep.Cut
import Derived.Deep.CutBlock
import Derived.Deep.CutRange
import Derived.Outline
import Derived.Maps.RangeWalk
import Derived.StillTailTactics
import Derived.Deep.RegionHeld3
import Derived.Test.YtgipenahkmbelaaGreatDoorTAK
set_option maxHeartbeats 64000000
namespace Go.Proofs.YtgipenahkmbelaaGreatDoor
open Go Go.RowKit
def gB:Nat:=38
def LastAt (w:World) (b:Nat) (u:List (Nat × List UInt8)):Prop:=
 ∃ M:DataW Unit,w.ownsMap Tryz.prog 3 (plainElem Tryz.prog 3) b u.length M∧
  ∀ i:Nat,Maps.has M (.int .i64 i)=(lastIx u i).isSome∧M.atKey (.int .i64 i) (.lit (.int .i64 0))=.lit (.int .i64 ((lastIx u i).getD 0:Nat))
def zBr (x:Nat × List UInt8):List Value:=.int .i64 x.1::bvs x.2
def undCells (u:List (Nat × List UInt8)):List Value:=u.flatMap zBr
theorem wayCells_length (u:List (Nat × List UInt8)) (n:Nat) (hu:∀ x ∈ u,x.1<n∧x.2.length=256):∀ x ∈ u,(zBr x).length=257:=by
 intro x hx;simp [zBr,(hu x hx).2]
theorem under_at {w:World} {v:Value} {T:TypeId} {u:List (Nat × List UInt8)} {n:Nat} (h:w.ownsRow 0 T 257 v u.length (undCells u)) (hu:∀ x ∈ u,x.1<n∧x.2.length=256) (k i:Nat) (b:List UInt8) (hk:u[k]? = some (i,b)) :
 ∃ g cap,v=.slice (some ⟨g,0,none⟩) u.length cap∧u.length≤cap∧cap≤maxLen∧g<w.heap.size∧w.rangeAt g (k*257) (zBr (i,b)):=by
 have hlt:=(List.getElem?_eq_some_iff.1 hk).1
 rcases h.2 with h1|⟨g,cap,cur,hv,_,hh,h3,h4,h5,h6⟩
 ·omega
 ·refine ⟨g,cap,hv,h3,h4,(Array.getElem?_eq_some_iff.1 hh).1,fun j z hz=>?_⟩
  have hj:j<257:=by
   have:=(List.getElem?_eq_some_iff.1 hz).1
   rw [wayCells_length u n hu _ (List.mem_of_getElem? hk)] at this;exact this
  have e:=flat_get zBr 257 u (wayCells_length u n hu) k (i,b) hk j hj
  rw [hz] at e
  have e2:(cur.toList.take (u.length*257))[k*257+j]? = some z:=by rw [h6];exact e
  rw [List.getElem?_take,if_pos (by omega)] at e2
  rw [cell_of_row w g _ _ T _ hh]
  simpa using e2
def DiskAt (w:World) (F:Nat→Prop) (p:Nat) (D:Dsk):Prop:=
 ∃ (pd pm:Nat) (uv:Value),
  Blk w p [.slice (some ⟨pd,0,none⟩) D.n D.n,uv,.map (some pm),.bool D.off,.int .i64 D.armed,.int .i64 D.writes,.int .i64 D.flushes,.int .i64 D.life] 138∧
  Blk w pd (bvs D.img) 189∧
  w.ownsRow 0 192 257 uv D.und.length (undCells D.und)∧LastAt w pm D.und∧
  (F p∧F pd∧F pm∧∀ g,uv.ownBlock=some g→F g)∧(∀ k,F k→gB≤k∧k<w.heap.size)∧D.ok
theorem ownsRow_keep {w w':World} {base:Nat} {e:TypeId} {size:Nat} {v:Value} {n:Nat} {xs:List Value} (h:w.ownsRow base e size v n xs) (hb:∀ g,v.ownBlock=some g→w'.heap[g]? = w.heap[g]?):w'.ownsRow base e size v n xs:=by
 obtain ⟨h1,h2⟩:=h
 refine ⟨h1,?_⟩
 rcases h2 with h2|⟨g,cap,cur,hv,hg,hh,r⟩
 ·exact Or.inl h2
 ·exact Or.inr ⟨g,cap,cur,hv,hg,by rw [hb g (by rw [hv];rfl)];exact hh,r⟩
theorem LastAt.keep {w w':World} {b:Nat} {u:List (Nat × List UInt8)} (h:LastAt w b u) (e:w'.heap[b]? = w.heap[b]?):LastAt w' b u:=by
 obtain ⟨M,⟨es,clock,hb,r⟩,h2⟩:=h
 exact ⟨M,⟨es,clock,e.trans hb,r⟩,h2⟩
theorem LastAt.lt {w:World} {b:Nat} {u:List (Nat × List UInt8)} (h:LastAt w b u):b<w.heap.size:=by
 obtain ⟨M,h,_⟩:=h;exact h.lt
theorem DiskAt.keep {w w':World} {F:Nat→Prop} {p:Nat} {D:Dsk} (hd:DiskAt w F p D) (hs:w.heap.size≤w'.heap.size) (h:∀ k,F k→w'.heap[k]? = w.heap[k]?):DiskAt w' F p D:=by
 obtain ⟨pd,pm,uv,hp,hpd,hu,hm,hF,hb,hok⟩:=hd
 exact ⟨pd,pm,uv,hp.keep (h _ hF.1),hpd.keep (h _ hF.2.1),ownsRow_keep hu (fun g hg=>h _ (hF.2.2.2 g hg)),hm.keep (h _ hF.2.2.1),hF,fun k hk=>⟨(hb k hk).1,Nat.lt_of_lt_of_le (hb k hk).2 hs⟩,hok⟩
theorem DiskAt.fr {w w':World} {F G:Nat→Prop} {p:Nat} {D:Dsk} (hd:DiskAt w F p D) (h:Fr G w w') (hG:∀ k,F k→¬ G k):DiskAt w' F p D:=
 hd.keep h.size fun k hk=>h.block k (by obtain ⟨_,_,_,_,_,_,_,_,hb,_⟩:=hd;exact (hb k hk).2) (hG k hk)
theorem DiskAt.bound {w:World} {F:Nat→Prop} {p:Nat} {D:Dsk} (hd:DiskAt w F p D):∀ k,F k→gB≤k∧k<w.heap.size:=by
 obtain ⟨_,_,_,_,_,_,_,_,hb,_⟩:=hd;exact hb
theorem DiskAt.good {w:World} {F:Nat→Prop} {p:Nat} {D:Dsk} (hd:DiskAt w F p D):D.ok:=by
 obtain ⟨_,_,_,_,_,_,_,_,_,h⟩:=hd;exact h
theorem DiskAt.has {w:World} {F:Nat→Prop} {p:Nat} {D:Dsk} (hd:DiskAt w F p D):F p:=by
 obtain ⟨_,_,_,_,_,_,_,hF,_,_⟩:=hd;exact hF.1
theorem DiskAt.cell {w:World} {F:Nat→Prop} {p:Nat} {D:Dsk} (hd:DiskAt w F p D) :
 w.cell? ⟨p,3,none⟩=some (.bool D.off)∧w.cell? ⟨p,4,none⟩=some (.int .i64 D.armed)∧w.cell? ⟨p,5,none⟩=some (.int .i64 D.writes)∧w.cell? ⟨p,6,none⟩=some (.int .i64 D.flushes)∧w.cell? ⟨p,7,none⟩=some (.int .i64 D.life)∧
 (∀ j,w.frozen? ⟨p,j,none⟩=false):=by
 obtain ⟨pd,pm,uv,hp,_⟩:=hd
 exact ⟨by rw [hp.cell];rfl,by rw [hp.cell];rfl,by rw [hp.cell];rfl,by rw [hp.cell];rfl,by rw [hp.cell];rfl,hp.free⟩
theorem DiskAt.store {w:World} {F:Nat→Prop} {p:Nat} {D:Dsk} (hd:DiskAt w F p D) (j:Nat) (v:Value) (D':Dsk) (hn:D'.n=D.n) (hi:D'.img=D.img) (hu:D'.und=D.und)
 (hs:∀ a u m:Value,[a,u,m,.bool D.off,.int .i64 D.armed,.int .i64 D.writes,.int .i64 D.flushes,.int .i64 D.life].set j v=[a,u,m,.bool D'.off,.int .i64 D'.armed,.int .i64 D'.writes,.int .i64 D'.flushes,.int .i64 D'.life]) (hok':D'.ok) :
 DiskAt (w.setCell ⟨p,j,none⟩ v) F p D':=by
 obtain ⟨pd,pm,uv,hp,hpd,hu1,hm,hF,hb,hok⟩:=hd
 have hp':=hp.set j v
 rw [hs] at hp'
 have n1:pd≠p:=hpd.ne hp (by decide)
 have n2:pm≠p:=by obtain ⟨_,⟨_,_,h,_⟩,_⟩:=hm;exact hp.ne_map h
 have n3:∀ g,uv.ownBlock=some g→g≠p:=fun g hg=>hp.ne_row hu1 hg (by decide)
 have keep:∀ k,k≠p→(w.setCell ⟨p,j,none⟩ v).heap[k]? = w.heap[k]?:=fun k hk=>heap_setCell_other _ _ _ _ hk
 refine ⟨pd,pm,uv,by rw [hn];exact hp',by rw [hi];exact hpd.keep (keep _ n1),by rw [hu];exact ownsRow_keep hu1 (fun g hg=>keep _ (n3 g hg)),by rw [hu];exact hm.keep (keep _ n2),hF,fun k hk=>⟨(hb k hk).1,by simpa [World.setCell] using (hb k hk).2⟩,hok'⟩
theorem goes_any (w:World) (F:Nat→Prop) (p:Nat) (D:Dsk) (hd:DiskAt w F p D) :
 Calls Tryz.prog 177 #[.pointer (some ⟨p,0,none⟩)] w fun e w'=>e=.returned (.bool D.dead)∧DiskAt w' F p D.gone∧Fr F w w':=by
 have hFp:=hd.has
 obtain ⟨c3,c4,c5,c6,c7,fr⟩:=hd.cell
 have hok:=hd.good
 have f3:=fr 3
 have f4:=fr 4
 have a1:=hok.arm1
 have a2:=hok.arm2
 have H:Hid (DiskAt w F p D∧F p∧D.ok):=⟨hd,hFp,hok⟩
 clear hd hFp hok fr c5 c6 c7
 go_enter Tryz.func177,Tryz.ntmps177
 go_wp2
 ·have h0:D.armed=0:=by have:(D.armed == 0)=true:=by assumption
                        simpa using this
  go_ret
  obtain ⟨hd,hFp,hok⟩:=H
  refine ⟨by simp [Dsk.dead,h0],hd.store 3 _ D.gone D.gone_n D.gone_img D.gone_und ?_ (Dsk.gone_ok hok),(Fr.refl _ _).setCell (.inl hFp) _⟩
  intro a u m;simp [Dsk.gone,h0]
 ·have h0:¬ D.armed=0:=by have:(D.armed == 0)=false:=by assumption
                          simpa using this
  have h1:0<D.armed:=by assumption
  go_ret
  obtain ⟨hd,hFp,hok⟩:=H
  refine ⟨by simp [Dsk.dead,h0],hd.store 4 _ D.gone D.gone_n D.gone_img D.gone_und ?_ (Dsk.gone_ok hok),(Fr.refl _ _).setCell (.inl hFp) _⟩
  intro a u m;simp [Dsk.gone,h0,h1]
 ·have h0:¬ D.armed=0:=by have:(D.armed == 0)=false:=by assumption
                          simpa using this
  have h1:¬ 0<D.armed:=by have:D.armed≤0:=by assumption
                          omega
  go_ret
  obtain ⟨hd,hFp,hok⟩:=H
  exact ⟨by simp [Dsk.dead,h0],by have:D.gone=D:=by simp [Dsk.gone,h0,h1]
                                  rw [this];exact hd,Fr.refl _ _⟩
end Go.Proofs.YtgipenahkmbelaaGreatDoor
namespace Go.Proofs.YtgipenahkmbelaaGreatDoor
open Go Go.RowKit
def errG:Nat→Nat
 |1=>10|2=>11|3=>12|4=>13|5=>14|6=>1|7=>15
 |8=>16|9=>17|10=>18|11=>19|12=>3|13=>2|14=>6
 |15=>8|16=>7|17=>5|18=>9|19=>0|20=>20|21=>4
 |22=>21|23=>22|24=>23|25=>24|26=>25|27=>26|28=>27
 |29=>28|30=>29|31=>30|32=>31|33=>32|34=>33|35=>34
 |36=>35|37=>36|_=>1000000
def errV (E:Nat→Addr) (k:Nat):Value:=if k=0 then .nilIface else .iface 256 (.pointer (some (E k)))
def ErrAt (w:World) (E:Nat→Addr) (k:Nat):Prop:=w.cell? ⟨errG k,0,none⟩=some (errV E k)
theorem ErrAt.keep {w w':World} {E:Nat→Addr} {k:Nat} (h:ErrAt w E k) {F:Nat→Prop} (hf:Fr F w w') (hF:∀ i,F i→gB≤i) (hk:errG k<gB):ErrAt w' E k:=by
 unfold ErrAt at h ⊢
 have hb:=block_lt_of_cell h
 rw [hf.cell hb (fun q=>by have h1:gB≤errG k:=hF _ q;omega)]
 exact h
theorem zero_int (w:World):(zeroValue 3).run Tryz.prog w=.ok (.int .i64 0) w:=by kernel_rfl
theorem intKey (i:Nat) (hi:i≤65536):keyOf Tryz.prog 3 (.int .i64 i)=some (.int .i64 i):=
 Maps.keyOf_int_mk Tryz.underlying3 (WalkArith.wf_i64 (by omega))
theorem wpList_lookup_last {ops:Array Oper} {rest:List Oper} {o:Oper} {a:Act} {w:World} {Q:Exit→Act→World→Prop} (hg:o.guard=none) (m x:Operand) (hop:o.op=Op.lookup 135 m x true)
 (b:Nat) (u:List (Nat × List UInt8)) (i:Nat) (hm:a.eval m=.map (some b)) (hx:a.eval x=.int .i64 i) (hL:LastAt w b u) (hi:i≤65536)
 (hK:wpList Tryz.prog ops Q rest (a.put o.dst (.tuple #[.int .i64 ((lastIx u i).getD 0:Nat),.bool (lastIx u i).isSome])) w):wpList Tryz.prog ops Q (o::rest) a w:=by
 obtain ⟨M,hM,hs⟩:=hL
 refine wpList_lookup_own_ok_int w hg m x 135 hop 3 3 .i64 (Maps.int_keyed Tryz.underlying3) Tryz.underlying135 Tryz.underlying3 (zero_int _) b _ M hm hM _ _ hx (intKey i hi) ?_
 intro c hc _
 rw [(hs i).2] at hc
 injection hc with hc
 injection hc with _ hc
 subst hc
 rw [(hs i).1]
 exact hK
theorem wpList_lookup_none {ops:Array Oper} {rest:List Oper} {o:Oper} {a:Act} {w:World} {Q:Exit→Act→World→Prop} (hg:o.guard=none) (m x:Operand) (hop:o.op=Op.lookup 135 m x true)
 (b:Nat) (u:List (Nat × List UInt8)) (i:Nat) (hm:a.eval m=.map (some b)) (hx:a.eval x=.int .i64 i) (hL:LastAt w b u) (hi:i≤65536) (hl:lastIx u i=none)
 (hK:wpList Tryz.prog ops Q rest (a.put o.dst (.tuple #[.int .i64 0,.bool false])) w):wpList Tryz.prog ops Q (o::rest) a w:=
 wpList_lookup_last hg m x hop b u i hm hx hL hi (by rw [hl];exact hK)
theorem wpList_lookup_some {ops:Array Oper} {rest:List Oper} {o:Oper} {a:Act} {w:World} {Q:Exit→Act→World→Prop} (hg:o.guard=none) (m x:Operand) (hop:o.op=Op.lookup 135 m x true)
 (b:Nat) (u:List (Nat × List UInt8)) (i:Nat) (hm:a.eval m=.map (some b)) (hx:a.eval x=.int .i64 i) (hL:LastAt w b u) (hi:i≤65536) (k:Nat) (hl:lastIx u i=some k)
 (hK:wpList Tryz.prog ops Q rest (a.put o.dst (.tuple #[.int .i64 k,.bool true])) w):wpList Tryz.prog ops Q (o::rest) a w:=
 wpList_lookup_last hg m x hop b u i hm hx hL hi (by rw [hl];exact hK)
theorem wpList_update_last {ops:Array Oper} {rest:List Oper} {o:Oper} {a:Act} {w:World} {Q:Exit→Act→World→Prop} (hg:o.guard=none) (m x v:Operand) (hop:o.op=Op.mapUpdate 135 m x v)
 (b:Nat) (u:List (Nat × List UInt8)) (i:Nat) (s:List UInt8) (hm:a.eval m=.map (some b)) (hx:a.eval x=.int .i64 i) (hv:a.eval v=.int .i64 u.length) (hL:LastAt w b u) (hi:i≤65536) (hul:u.length<1073741824)
 (hK:∀ w',Hid (LastAt w' b (u++[(i,s)])∧w.grownBy w' (some b))→wpList Tryz.prog ops Q rest (a.put o.dst undef) w'):wpList Tryz.prog ops Q (o::rest) a w:=by
 obtain ⟨M,hM,hs⟩:=hL
 refine wpList_mapUpdate_own w hg m x v 135 hop 3 3 (Maps.int_keyed Tryz.underlying3) Tryz.underlying135 (plainElem Tryz.prog 3) b _ M hm hM (by unfold maxLen;omega) _ _ _ hx hv (intKey i hi) _ []
  (plainElem_int Tryz.underlying3 (WalkArith.wf_i64 (by omega))) ?_
 intro w' hM' hgr
 refine hK w' ⟨⟨_,by rw [List.length_append];exact hM',fun j=>?_⟩,hgr⟩
 rw [lastIx_snoc]
 by_cases hij:i=j
 ·subst hij
  rw [Maps.has_put_same (k:=.int .i64 (i:Int)) hM.isMap trivial,Maps.atKey_put_same (k:=.int .i64 (i:Int)) hM.isMap trivial]
  simp
 ·have hne:(Lit.int IntKind.i64 (j:Int))≠.int .i64 i:=by
   intro e;injection e with _ e;omega
  rw [Maps.has_put_other hne,Maps.atKey_put_other hne,if_neg hij]
  exact hs j
theorem has_any (w:World) (F:Nat→Prop) (p:Nat) (D:Dsk) (hd:DiskAt w F p D) (i:Int) :
 Calls Tryz.prog 129 #[.pointer (some ⟨p,0,none⟩),.int .i64 i] w fun e w'=>e=.returned (.bool (D.has i))∧w=w':=by
 have hok:=hd.good
 obtain ⟨pd,pm,uv,hp,-⟩:=hd
 have c0:w.cell? ⟨p,0,none⟩=some (.slice (some ⟨pd,0,none⟩) D.n D.n):=by rw [hp.cell];rfl
 have b2:=hok.n2
 clear hp hok
 by_cases h0:0≤i
 ·have h0':decide ((0:Int)≤i)=true:=by simpa using h0
  by_cases h1:i<D.n
  ·go_enter Tryz.func129,Tryz.ntmps129
   go_wp2
   all_goals go_ret
   all_goals exact ⟨by simp [Dsk.has,h0,h1],rfl⟩
  ·go_enter Tryz.func129,Tryz.ntmps129
   go_wp2
   all_goals go_ret
   all_goals exact ⟨by simp [Dsk.has,h0,h1],rfl⟩
 ·go_enter Tryz.func129,Tryz.ntmps129
  go_wp2
  all_goals go_ret
  all_goals exact ⟨by have h0':¬ 0≤i:=by omega
                      simp [Dsk.has,h0'],rfl⟩
theorem size_any (w:World) (F:Nat→Prop) (p:Nat) (D:Dsk) (hd:DiskAt w F p D) :
 Calls Tryz.prog 59 #[.pointer (some ⟨p,0,none⟩)] w fun e w'=>e=.returned (.int .i64 D.n)∧w=w':=by
 have hok:=hd.good
 obtain ⟨pd,pm,uv,hp,-⟩:=hd
 have c0:w.cell? ⟨p,0,none⟩=some (.slice (some ⟨pd,0,none⟩) D.n D.n):=by rw [hp.cell];rfl
 have b2:=hok.n2
 clear hp hok
 go_enter Tryz.func59,Tryz.ntmps59
 go_wp2
 go_ret
 exact ⟨rfl,rfl⟩
theorem off_any (w:World) (F:Nat→Prop) (p:Nat) (D:Dsk) (hd:DiskAt w F p D) :
 Calls Tryz.prog 60 #[.pointer (some ⟨p,0,none⟩)] w fun e w'=>e=.returned (.bool D.off)∧w=w':=by
 obtain ⟨c3,-⟩:=hd.cell
 clear hd
 go_enter Tryz.func60,Tryz.ntmps60
 go_wp2
 go_ret
 exact ⟨rfl,rfl⟩
theorem life_any (w:World) (F:Nat→Prop) (p:Nat) (D:Dsk) (hd:DiskAt w F p D) :
 Calls Tryz.prog 92 #[.pointer (some ⟨p,0,none⟩)] w fun e w'=>e=.returned (.int .i64 D.life)∧w=w':=by
 obtain ⟨-,-,-,-,c7,-⟩:=hd.cell
 clear hd
 go_enter Tryz.func92,Tryz.ntmps92
 go_wp2
 go_ret
 exact ⟨rfl,rfl⟩
end Go.Proofs.YtgipenahkmbelaaGreatDoor
namespace Go.Proofs.YtgipenahkmbelaaGreatDoor
open Go Go.RowKit
theorem info_block:(Tryz.prog.info? 189).map (·.size)=some 256:=by kernel_rfl
theorem read_none (w:World) (F:Nat→Prop) (p:Nat) (D:Dsk) (hd:DiskAt w F p D) (i:Nat) (hoff:D.off=false) (hi:i<D.n) (hl:lastIx D.und i=none) :
 Calls Tryz.prog 89 #[.pointer (some ⟨p,0,none⟩),.int .i64 i] w fun e w'=>e=.returned (.tuple #[.string ⟨(D.rd i).toArray⟩,.nilIface])∧Fr noB w w':=by
 have hok:=hd.good
 have hhas:D.has i=true:=by simp [Dsk.has,hi]
 have Hc:=Lib.hid (has_any w F p D hd i)
 obtain ⟨pd,pm,uv,hp,hpd,hu,hm,hF,hb,-⟩:=hd
 have hrd:D.rd i=D.sec i:=by rw [Dsk.rd,lastIx_none _ _ hl];rfl
 have hlen:(D.sec i).length=256:=by have:=hok.len;exact cut_length _ _ _ (by omega)
 have c0:w.cell? ⟨p,0,none⟩=some (.slice (some ⟨pd,0,none⟩) D.n D.n):=by rw [hp.cell];rfl
 have c2:w.cell? ⟨p,2,none⟩=some (.map (some pm)):=by rw [hp.cell];rfl
 have c3:w.cell? ⟨p,3,none⟩=some (.bool false):=by rw [hp.cell,← hoff];rfl
 have b2:=hok.n2
 have lp:=hp.lt
 have hr:w.rangeAt pd (i*256) (bvs (D.sec i)):=by
  have:=hpd.range (o:=i*256) (n:=256)
  rwa [bvs_drop,bvs_take] at this
 rw [hhas] at Hc
 have H:Hid (w.rangeAt pd (i*256) (bvs (D.sec i))∧LastAt (w.alloc (.cells (bvs (D.sec i)).toArray 189)) pm D.und∧(D.sec i).length=256∧D.rd i=D.sec i∧lastIx D.und i=none):=
  ⟨hr,hm.keep (Below.heap_alloc _ _ _ hm.lt),hlen,hrd,hl⟩
 clear hp hpd hu hm hF hb hok hoff hhas hr hrd hlen hl
 go_enter Tryz.func89,Tryz.ntmps89
 go_upto_region 5 with (first|(go_at_call 129;refine Hc.out.mono ?_;rintro e w' ⟨rfl,rfl⟩))
 go_upto_region 6 with (first|((with_reducible refine wpList_load_mid ?_ 189 (.tmp 24) ?_ pd (i*256) ?_ (bvs (D.sec i)) _ H.out.1 Tryz.underlying189 rfl ?hi ?_);(rfl);(rfl);(rfl))|((with_reducible refine wpList_store_top ?_ 189 (.tmp 6) (.tmp 25) ?_ _ (bvs (D.sec i)).toArray _ ?_ ?_ ?hz ?hi2 (all_bvs _) ?_);(rfl);(rfl);(rfl);(rfl)))
 case hi=>rw [info_block,bvs_length,H.out.2.2.1]
 case hz=>simp [Tryz.zeroCells189_size,H.out.2.2.1]
 case hi2=>rw [info_block];simp [H.out.2.2.1]
 go_frame
 go_wp2_with (first|(at_lookup;(with_reducible refine wpList_lookup_none ?_ (.tmp 30) (.tmp 31) ?_ pm D.und i ?_ ?_ H.out.2.1 (by omega) H.out.2.2.2.2 ?_);(rfl);(rfl);(rfl);(rfl))|((with_reducible refine wpList_bytes_string ?_ 93 9 5 (.tmp 44) ?_ Tryz.underlying93 Tryz.underlying5 Tryz.underlying9 w.heap.size 0 256 256 (D.sec i) ?_ H.out.2.2.1.symm ?hc ?_);(rfl);(rfl);(rfl)))
 case hc=>exact range_new _ _ _
 go_ret2
 exact ⟨congrArg (fun l:List UInt8=>Ending.returned (.tuple #[.string ⟨l.toArray⟩,.nilIface])) H.out.2.2.2.1.symm,(Fr.refl _ _).alloc _⟩
theorem read_some (w:World) (F:Nat→Prop) (p:Nat) (D:Dsk) (hd:DiskAt w F p D) (i:Nat) (hoff:D.off=false) (hi:i<D.n) (k:Nat) (hl:lastIx D.und i=some k) :
 Calls Tryz.prog 89 #[.pointer (some ⟨p,0,none⟩),.int .i64 i] w fun e w'=>e=.returned (.tuple #[.string ⟨(D.rd i).toArray⟩,.nilIface])∧Fr noB w w':=by
 have hok:=hd.good
 have hhas:D.has i=true:=by simp [Dsk.has,hi]
 have Hc:=Lib.hid (has_any w F p D hd i)
 obtain ⟨pd,pm,uv,hp,hpd,hu,hm,hF,hb,-⟩:=hd
 obtain ⟨b,hk,hW⟩:=lastIx_some _ _ _ hl
 have hrd:D.rd i=b:=by rw [Dsk.rd,hW];rfl
 have hbl:b.length=256:=(hok.und _ (List.mem_of_getElem? hk)).2
 have hkl:k<D.und.length:=(List.getElem?_eq_some_iff.1 hk).1
 obtain ⟨g,cap,rfl,hc1,hc2,hgl,hg⟩:=under_at hu hok.und k i b hk
 have hlen:(D.sec i).length=256:=by have:=hok.len;exact cut_length _ _ _ (by omega)
 have c0:w.cell? ⟨p,0,none⟩=some (.slice (some ⟨pd,0,none⟩) D.n D.n):=by rw [hp.cell];rfl
 have c1:w.cell? ⟨p,1,none⟩=some (.slice (some ⟨g,0,none⟩) D.und.length cap):=by rw [hp.cell];rfl
 have c2:w.cell? ⟨p,2,none⟩=some (.map (some pm)):=by rw [hp.cell];rfl
 have c3:w.cell? ⟨p,3,none⟩=some (.bool false):=by rw [hp.cell,← hoff];rfl
 have b2:=hok.n2
 have lp:=hp.lt
 have hr:w.rangeAt pd (i*256) (bvs (D.sec i)):=by
  have:=hpd.range (o:=i*256) (n:=256)
  rwa [bvs_drop,bvs_take] at this
 have hg2:(w.alloc (.cells (bvs (D.sec i)).toArray 189)).rangeAt g (k*257+1) (bvs b):=by
  refine World.rangeAt_alloc (fun j v hj=>?_) _
  have:=hg (j+1) v (by simpa [zBr] using hj)
  rw [show k*257+1+j=k*257+(j+1) by omega];exact this
 rw [hhas] at Hc
 unfold maxLen at hc2
 have H:Hid (w.rangeAt pd (i*256) (bvs (D.sec i))∧LastAt (w.alloc (.cells (bvs (D.sec i)).toArray 189)) pm D.und∧(D.sec i).length=256∧D.rd i=b∧lastIx D.und i=some k∧(w.alloc (.cells (bvs (D.sec i)).toArray 189)).rangeAt g (k*257+1) (bvs b)∧b.length=256):=
  ⟨hr,hm.keep (Below.heap_alloc _ _ _ hm.lt),hlen,hrd,hl,hg2,hbl⟩
 clear hp hpd hu hm hF hb hok hoff hhas hr hrd hlen hl hg hg2 hbl hk hW
 go_enter Tryz.func89,Tryz.ntmps89
 go_upto_region 5 with (first|(go_at_call 129;refine Hc.out.mono ?_;rintro e w' ⟨rfl,rfl⟩))
 go_upto_region 6 with (first|((with_reducible refine wpList_load_mid ?_ 189 (.tmp 24) ?_ pd (i*256) ?_ (bvs (D.sec i)) _ H.out.1 Tryz.underlying189 rfl ?hi ?_);(rfl);(rfl);(rfl))|((with_reducible refine wpList_store_top ?_ 189 (.tmp 6) (.tmp 25) ?_ _ (bvs (D.sec i)).toArray _ ?_ ?_ ?hz ?hi2 (all_bvs _) ?_);(rfl);(rfl);(rfl);(rfl)))
 case hi=>rw [info_block,bvs_length,H.out.2.2.1]
 case hz=>simp [Tryz.zeroCells189_size,H.out.2.2.1]
 case hi2=>rw [info_block];simp [H.out.2.2.1]
 go_frame
 go_upto_region 8 with (first|(at_lookup;(with_reducible refine wpList_lookup_some ?_ (.tmp 30) (.tmp 31) ?_ pm D.und i ?_ ?_ H.out.2.1 (by omega) k H.out.2.2.2.2.1 ?_);(rfl);(rfl);(rfl);(rfl)))
 go_upto_region 9 with (first|((with_reducible refine wpList_load_mid ?_ 189 (.tmp 42) ?_ g (k*257+1) ?_ (bvs b) _ H.out.2.2.2.2.2.1 Tryz.underlying189 rfl ?hi3 ?_);(rfl);(rfl);(rfl))|((with_reducible refine wpList_store_top ?_ 189 (.tmp 6) (.tmp 43) ?_ _ (bvs b).toArray _ ?_ ?_ ?hz4 ?hi4 (all_bvs _) ?_);(rfl);(rfl);(rfl);(rfl)))
 case hi3=>rw [info_block,bvs_length,H.out.2.2.2.2.2.2]
 case hz4=>simp [H.out.2.2.1,H.out.2.2.2.2.2.2]
 case hi4=>rw [info_block];simp [H.out.2.2.2.2.2.2]
 go_frame
 go_wp2_with (first|((with_reducible refine wpList_bytes_string ?_ 93 9 5 (.tmp 44) ?_ Tryz.underlying93 Tryz.underlying5 Tryz.underlying9 w.heap.size 0 256 256 b ?_ H.out.2.2.2.2.2.2.symm ?hc ?_);(rfl);(rfl);(rfl)))
 case hc=>exact range_new _ _ _
 go_ret2
 exact ⟨congrArg (fun l:List UInt8=>Ending.returned (.tuple #[.string ⟨l.toArray⟩,.nilIface])) H.out.2.2.2.1.symm,(Fr.refl _ _).alloc _⟩
theorem read_off (w:World) (F:Nat→Prop) (p:Nat) (D:Dsk) (E:Nat→Addr) (hd:DiskAt w F p D) (i:Int) (h12:ErrAt w E 12) (ho:D.off=true) :
 Calls Tryz.prog 89 #[.pointer (some ⟨p,0,none⟩),.int .i64 i] w fun e w'=>e=.returned (.tuple #[.string ⟨#[]⟩,errV E 12])∧Fr noB w w':=by
 obtain ⟨c3,-⟩:=hd.cell
 have e12:w.cell? ⟨3,0,none⟩=some (errV E 12):=h12
 rw [ho] at c3
 clear h12 hd ho
 go_enter Tryz.func89,Tryz.ntmps89
 go_wp2
 go_quiet (fail)
 all_goals go_wp2
 all_goals go_ret2
 all_goals exact ⟨rfl,(Fr.refl _ _).drewN _⟩
theorem read_out (w:World) (F:Nat→Prop) (p:Nat) (D:Dsk) (E:Nat→Addr) (hd:DiskAt w F p D) (i:Int) (h6:ErrAt w E 6) (ho:D.off=false) (hh:D.has i=false) :
 Calls Tryz.prog 89 #[.pointer (some ⟨p,0,none⟩),.int .i64 i] w fun e w'=>e=.returned (.tuple #[.string ⟨#[]⟩,errV E 6])∧Fr noB w w':=by
 have Hc:=Lib.hid (has_any w F p D hd i)
 obtain ⟨c3,-⟩:=hd.cell
 have e6:w.cell? ⟨1,0,none⟩=some (errV E 6):=h6
 rw [ho] at c3
 rw [hh] at Hc
 clear h6 hd ho hh
 go_enter Tryz.func89,Tryz.ntmps89
 go_wp2_with (first|(go_at_call 129;refine Hc.out.mono ?_;rintro e w' ⟨rfl,rfl⟩))
 go_quiet (fail)
 all_goals go_wp2
 all_goals go_ret2
 all_goals exact ⟨rfl,(Fr.refl _ _).drewN _⟩
theorem read_any (w:World) (F:Nat→Prop) (p:Nat) (D:Dsk) (E:Nat→Addr) (hd:DiskAt w F p D) (i:Int) (h12:ErrAt w E 12) (h6:ErrAt w E 6) :
 Calls Tryz.prog 89 #[.pointer (some ⟨p,0,none⟩),.int .i64 i] w fun e w'=>e=.returned (.tuple #[.string ⟨(D.readS i).toArray⟩,errV E (D.readE i)])∧Fr noB w w':=by
 by_cases ho:D.off=true
 ·have e1:D.readS i=[]:=by simp [Dsk.readS,ho]
  have e2:D.readE i=12:=by simp [Dsk.readE,ho]
  rw [e1,e2]
  exact read_off w F p D E hd i h12 ho
 have ho:D.off=false:=by simpa using ho
 by_cases hh:D.has i=true
 ·have hi:0≤i∧i<D.n:=by simpa [Dsk.has] using hh
  obtain ⟨j,rfl⟩:=Int.eq_ofNat_of_zero_le hi.1
  have e1:D.readS j=D.rd j:=by simp [Dsk.readS,ho,hh]
  have e2:D.readE j=0:=by simp [Dsk.readE,ho,hh]
  rw [e1,e2]
  cases hl:lastIx D.und j with
  |none=>exact read_none w F p D hd j ho (by omega) hl
  |some k=>exact read_some w F p D hd j ho (by omega) k hl
 ·have hh:D.has i=false:=by simpa using hh
  have e1:D.readS i=[]:=by simp [Dsk.readS,ho,hh]
  have e2:D.readE i=6:=by simp [Dsk.readE,ho,hh]
  rw [e1,e2]
  exact read_out w F p D E hd i h6 ho hh
end Go.Proofs.YtgipenahkmbelaaGreatDoor
namespace Go.Proofs.YtgipenahkmbelaaGreatDoor
open Go Go.RowKit
theorem wpList_clear_last {ops:Array Oper} {rest:List Oper} {o:Oper} {a:Act} {w:World} {Q:Exit→Act→World→Prop} (hg:o.guard=none) (m:Operand)
 (ho:o.op=.call { callee:=.builtin .clear,args:=#[m],argTypes:=#[135] }) (b:Nat) (u:List (Nat × List UInt8)) (hm:a.eval m=.map (some b)) (hL:LastAt w b u)
 (hK:∀ w',Hid (LastAt w' b []∧w.grownBy w' (some b))→wpList Tryz.prog ops Q rest (a.put o.dst (.tuple #[])) w'):wpList Tryz.prog ops Q (o::rest) a w:=by
 obtain ⟨M,⟨es,clock,hb,_⟩,_⟩:=hL
 have hlt:b<w.heap.size:=(Array.getElem?_eq_some_iff.1 hb).1
 refine wpList_clear_map hg m _ _ _ Tryz.underlying135 ho b es clock hm hb (hK _ ⟨⟨.map [],⟨#[],clock,?_,⟨Nat.zero_le _,MapKept.stamped_empty _,fun x hx=>by cases hx⟩,Nat.le_refl _,rfl⟩,?_⟩,⟨rfl,rfl,rfl,by simp,?_⟩⟩)
 ·simp [hlt]
 ·intro i;exact ⟨rfl,rfl⟩
 ·intro k hk hne
  simp only [ne_eq,Option.some.injEq] at hne
  simp [Ne.symm hne]
theorem settled_any (w:World) (F:Nat→Prop) (p:Nat) (D:Dsk) (hd:DiskAt w F p D) :
 Calls Tryz.prog 178 #[.pointer (some ⟨p,0,none⟩)] w fun e w'=>e=.returned (.tuple #[])∧DiskAt w' F p D.clr∧Fr F w w':=by
 obtain ⟨pd,pm,uv,hp,hpd,hu,hm,hF,hb,hok⟩:=hd
 have c1:w.cell? ⟨p,1,none⟩=some uv:=by rw [hp.cell];rfl
 have c2:w.cell? ⟨p,2,none⟩=some (.map (some pm)):=by rw [hp.cell];rfl
 have f1:=hp.free 1
 have H:Hid (Blk w p [.slice (some ⟨pd,0,none⟩) D.n D.n,uv,.map (some pm),.bool D.off,.int .i64 D.armed,.int .i64 D.writes,.int .i64 D.flushes,.int .i64 D.life] 138∧Blk w pd (bvs D.img) 189∧LastAt w pm D.und∧(F p∧F pd∧F pm∧∀ g,uv.ownBlock=some g→F g)∧(∀ k,F k→gB≤k∧k<w.heap.size)∧D.ok):=⟨hp,hpd,hm,hF,hb,hok⟩
 have Hm:Hid (LastAt (w.setCell ⟨p,1,none⟩ (.slice none 0 0)) pm D.und):=hm.keep (heap_setCell_other _ _ _ _ (by obtain ⟨_,⟨_,_,h,_⟩,_⟩:=hm;exact hp.ne_map h))
 clear hp hpd hu hm hF hb hok
 go_enter Tryz.func178,Tryz.ntmps178
 go_upto_region 1 with (fail)
 go_wp2_with ((with_reducible refine wpList_clear_last ?_ (.tmp 8) ?_ pm D.und ?_ Hm.out ?_);(rfl);(rfl);(rfl);(intro w1 hw1))
 go_end0
 obtain ⟨hp,hpd,hm,hF,hb,hok⟩:=H
 obtain ⟨hm1,hg⟩:=hw1
 have n1:pd≠p:=hpd.ne hp (by decide)
 have n2:pm≠p:=by obtain ⟨_,⟨_,_,h,_⟩,_⟩:=hm;exact hp.ne_map h
 have n3:pm≠pd:=by obtain ⟨_,⟨_,_,h,_⟩,_⟩:=hm;exact hpd.ne_map h
 have hs:(w.setCell ⟨p,1,none⟩ (Value.slice none 0 0)).heap.size=w.heap.size:=by simp [World.setCell]
 have k1:∀ k,k<w.heap.size→k≠pm→w1.heap[k]? = (w.setCell ⟨p,1,none⟩ (Value.slice none 0 0)).heap[k]?:=fun k hk hne=>hg.block k (by rw [hs];exact hk) (by simpa using hne)
 have hp':=(hp.set 1 (.slice none 0 0)).keep (k1 p hp.lt (Ne.symm n2))
 refine ⟨rfl,⟨pd,pm,.slice none 0 0,hp',?_,World.ownsRow_nil _ _ _ _,hm1,⟨hF.1,hF.2.1,hF.2.2.1,fun g hg=>by simp [Value.ownBlock] at hg⟩,fun k hk=>⟨(hb k hk).1,Nat.lt_of_lt_of_le (hb k hk).2 (by have:=hg.size;rw [hs] at this;exact this)⟩,Dsk.clr_ok hok⟩,?_⟩
 ·exact hpd.keep ((k1 pd hpd.lt (Ne.symm n3)).trans (heap_setCell_other _ _ _ _ n1))
 ·exact ((Fr.refl F w).setCell (.inl hF.1) _).grown hg (fun k hk=>by cases hk;exact .inl hF.2.2.1)
end Go.Proofs.YtgipenahkmbelaaGreatDoor
namespace Go.Proofs.YtgipenahkmbelaaGreatDoor
open Go Go.RowKit
theorem built_write (v:Int):Tryz.prog.built 192 [(0,.int .i64 v)]=some (.int .i64 v::bvs (zs 256)).toArray:=by kernel_rfl
theorem info_write:(Tryz.prog.info? 192).map (·.size)=some 257:=by kernel_rfl
theorem info_byte:(Tryz.prog.info? 5).map (·.size)=some 1:=by kernel_rfl
def rawWay (i:Nat):List Value:=.int .i64 i::bvs (zs 256)
theorem rawWay_length (i:Nat):(rawWay i).length=257:=by rw [rawWay,List.length_cons,bvs_length,zs_length]
theorem rawWay_one (i:Nat):(rawWay i).toArray.all (·.oneCell')=true:=by
 rw [Array.all_eq_true_iff_forall_mem]
 intro v hv
 rcases List.mem_cons.1 (show v ∈ _::bvs _ by simpa only [List.mem_toArray,rawWay] using hv) with h|h
 ·subst h;rfl
 ·exact bvs_one _ v h
theorem wayCells_len (i:Nat) (s:List UInt8) (hs:s.length=256):(zBr (i,s)).length=257:=by simp [zBr,hs]
theorem wayCells_one (x:Nat × List UInt8):∀ u ∈ zBr x,u.oneCell'=true:=by
 intro v hv
 rcases List.mem_cons.1 hv with h|h
 ·subst h;rfl
 ·exact bvs_one _ v h
theorem lay_way (i:Nat) (s:List UInt8) (hs:s.length=256):lay (rawWay i) 1 (bvs (s.take 256))=zBr (i,s):=by
 have:s.take 256=s:=List.take_of_length_le (by omega)
 rw [this]
 unfold lay rawWay zBr
 rw [List.drop_eq_nil_of_le (by rw [List.length_cons,bvs_length,bvs_length,zs_length];omega)]
 simp
theorem own_shape {w:World} {base:Nat} {e:TypeId} {size:Nat} {v:Value} {n:Nat} {xs:List Value} (h:w.ownsRow base e size v n xs):∃ a c,v=.slice a n c:=by
 rcases h.2 with h|⟨g,cap,cur,hv,_⟩
 ·exact ⟨none,0,by rw [h.1,h.2]⟩
 ·exact ⟨_,_,hv⟩
def grow (F:Nat→Prop) (w w':World):Nat→Prop:=fun k=>F k∨(w.heap.size≤k∧k<w'.heap.size)
def Dsk.push (D:Dsk) (i:Nat) (s:List UInt8):Dsk:={ D with und:=D.und++[(i,s)] }
theorem Dsk.push_ok {D:Dsk} (h:D.ok) (i:Nat) (s:List UInt8) (hi:i<D.n) (hs:s.length=256):(D.push i s).ok:=⟨h.n1,h.n2,h.len,by
 intro x hx
 rcases List.mem_append.1 hx with hx|hx
 ·exact h.und x hx
 ·simp at hx;subst hx;exact ⟨hi,hs⟩,h.arm1,h.arm2⟩
theorem pushed {w w1 w3:World} {F:Nat→Prop} {p pd pm:Nat} {uv v':Value} {D:Dsk} {i:Nat} {s:List UInt8} {A B:Obj}
 (hp:Blk w p [.slice (some ⟨pd,0,none⟩) D.n D.n,uv,.map (some pm),.bool D.off,.int .i64 D.armed,.int .i64 D.writes,.int .i64 D.flushes,.int .i64 D.life] 138)
 (hpd:Blk w pd (bvs D.img) 189) (hu:w.ownsRow 0 192 257 uv D.und.length (undCells D.und)) (hm:LastAt w pm D.und)
 (hF:F p∧F pd∧F pm∧∀ g,uv.ownBlock=some g→F g) (hb:∀ k,F k→gB≤k∧k<w.heap.size) (hok:D.ok) (hi:i<D.n) (hs:s.length=256)
 (hw1:LastAt w1 pm (D.und++[(i,s)])∧(w.alloc A).drew.grownBy w1 (some pm))
 (hw3:w3.ownsRow 0 192 257 v' (D.und.length+1) (undCells D.und++zBr (i,s))∧(w1.drew.alloc B).grownBy w3 uv.ownBlock∧(v'.ownBlock=uv.ownBlock∨v'.ownBlock=some (w1.drew.alloc B).heap.size)) :
 DiskAt (w3.setCell ⟨p,1,none⟩ v') (grow F w (w3.setCell ⟨p,1,none⟩ v')) p (D.push i s)∧Fr F w (w3.setCell ⟨p,1,none⟩ v')∧
  w3.cell? ⟨p,1,none⟩=some uv∧w3.frozen? ⟨p,1,none⟩=false:=by
 have n1:pd≠p:=hpd.ne hp (by decide)
 have n2:pm≠p:=by obtain ⟨_,⟨_,_,h,_⟩,_⟩:=hm;exact hp.ne_map h
 have n3:pm≠pd:=by obtain ⟨_,⟨_,_,h,_⟩,_⟩:=hm;exact hpd.ne_map h
 have n4:∀ g,uv.ownBlock=some g→g≠p:=fun g hg=>hp.ne_row hu hg (by decide)
 have n5:∀ g,uv.ownBlock=some g→g≠pd:=fun g hg=>hpd.ne_row hu hg (by decide)
 have n6:∀ g,uv.ownBlock=some g→g≠pm:=fun g hg=>by
  obtain ⟨_,⟨_,_,h,_⟩,_⟩:=hm
  intro e;subst e
  rcases hu.2 with h1|⟨g',cap,cur,hv,_,hh,_⟩
  ·rw [h1.1] at hg;simp [Value.ownBlock] at hg
  ·rw [hv] at hg;simp [Value.ownBlock] at hg;subst hg;rw [h] at hh;cases hh
 obtain ⟨hL,g1⟩:=hw1
 obtain ⟨ho,g3,hloc⟩:=hw3
 have s1:w.heap.size+1≤w1.heap.size:=by have:=g1.size;simpa using this
 have s3:w1.heap.size+1≤w3.heap.size:=by have:=g3.size;simpa using this
 have k1:∀ k,k<w.heap.size→k≠pm→w1.heap[k]? = w.heap[k]?:=fun k hk hne=>
  (g1.block k (by simp;omega) (by simpa using hne)).trans (Below.heap_alloc w A k hk)
 have k3:∀ k,k<w1.heap.size→(∀ g,uv.ownBlock=some g→g≠k)→w3.heap[k]? = w1.heap[k]?:=fun k hk hne=>
  (g3.block k (by simp;omega) (by intro e;exact hne k e.symm rfl)).trans (Below.heap_alloc w1.drew B k (by simpa using hk))
 have lp:=hp.lt
 have lpd:=hpd.lt
 have lpm:=hm.lt
 have b3:Blk w3 p _ _:=hp.keep ((k3 p (by omega) (fun g hg=>n4 g hg)).trans (k1 p lp (Ne.symm n2)))
 have bd3:Blk w3 pd _ _:=hpd.keep ((k3 pd (by omega) (fun g hg=>n5 g hg)).trans (k1 pd lpd (Ne.symm n3)))
 have L3:LastAt w3 pm _:=hL.keep (k3 pm (by omega) (fun g hg=>n6 g hg))
 have hs4:(w3.setCell ⟨p,1,none⟩ v').heap.size=w3.heap.size:=by simp [World.setCell]
 have q:∀ k,k≠p→(w3.setCell ⟨p,1,none⟩ v').heap[k]? = w3.heap[k]?:=fun k hk=>heap_setCell_other _ _ _ _ hk
 have hv':∀ g,v'.ownBlock=some g→g≠p∧grow F w (w3.setCell ⟨p,1,none⟩ v') g:=fun g hg=>by
  have hlt:=(ho.lt g hg).2
  rcases hloc with h|h
  ·rw [h] at hg;exact ⟨n4 g hg,.inl (hF.2.2.2 g hg)⟩
  ·rw [h] at hg
   simp at hg
   exact ⟨by omega,.inr ⟨by omega,by rw [hs4];exact hlt⟩⟩
 refine ⟨⟨pd,pm,v',b3.set 1 v',bd3.keep (q _ n1),?_,L3.keep (q _ n2),⟨.inl hF.1,.inl hF.2.1,.inl hF.2.2.1,fun g hg=>(hv' g hg).2⟩,?_,Dsk.push_ok hok i s hi hs⟩,?_,by rw [b3.cell];rfl,b3.free 1⟩
 ·have e:undCells (D.push i s).und=undCells D.und++zBr (i,s):=by simp [undCells,Dsk.push]
  have e2:(D.push i s).und.length=D.und.length+1:=by simp [Dsk.push]
  rw [e,e2]
  exact ownsRow_keep ho (fun g hg=>q g (hv' g hg).1)
 ·intro k hk
  have:=hb p hF.1
  rcases hk with hk|hk
  ·have:=hb k hk;rw [hs4];omega
  ·rw [hs4] at hk ⊢;omega
 ·have f1:Fr F w w1:=((Fr.refl F w).alloc A).drew.grown g1 (fun k hk=>by cases hk;exact .inl hF.2.2.1)
  have f3:Fr F w w3:=(f1.drew.alloc B).grown g3 (fun k hk=>.inl (hF.2.2.2 k hk))
  exact f3.setCell (.inl hF.1) _
set_option maxRecDepth 100000 in
theorem write_ok (w:World) (F:Nat→Prop) (p:Nat) (D:Dsk) (E:Nat→Addr) (hd:DiskAt w F p D) (i:Nat) (s:List UInt8) (h12:ErrAt w E 12) (hoff:D.off=false) (hi:i<D.n) (hs:s.length=256) (hul:D.und.length<1073741824) :
 Calls Tryz.prog 135 #[.pointer (some ⟨p,0,none⟩),.int .i64 i,.string ⟨s.toArray⟩] w fun e w'=>e=.returned (errV E (D.writeE i s))∧∃ F',DiskAt w' F' p (D.writeD i s)∧Fr F w w'∧∀ k,F' k→F k∨w.heap.size≤k:=by
 have hok:=hd.good
 have hhas:D.has i=true:=by simp [Dsk.has,hi]
 have Hc:=Lib.hid (has_any w F p D hd i)
 rw [hhas] at Hc
 obtain ⟨c3,-⟩:=hd.cell
 rw [hoff] at c3
 have Hs:=Lib.hid hs
 have hs1:((s.length:Int) != 256)=false:=by rw [hs];rfl
 have hb2:=hok.n2
 obtain ⟨pd,pm,uv,hp,hpd,hu,hm,hF,hb,-⟩:=hd
 have c1:w.cell? ⟨p,1,none⟩=some uv:=by rw [hp.cell];rfl
 have c2:w.cell? ⟨p,2,none⟩=some (.map (some pm)):=by rw [hp.cell];rfl
 have huv:∃ a c,uv=.slice a D.und.length c:=by
  rcases hu.2 with h|⟨g,cap,cur,hv,_⟩
  ·exact ⟨none,0,by rw [h.1,h.2]⟩
  ·exact ⟨_,_,hv⟩
 obtain ⟨ua,uc,rfl⟩:=huv
 have lp:=hp.lt
 have lm:=hm.lt
 have npm:pm≠p:=by obtain ⟨_,⟨_,_,h,_⟩,_⟩:=hm;exact hp.ne_map h
 have f1:=hp.free 1
 have hoff':=Lib.hid hoff
 have Hp:=Lib.hid hF.1
 have HD:=Lib.hid (And.intro hp (And.intro hpd (And.intro hu (And.intro hm (And.intro hF (And.intro hb hok))))))
 have HU:Hid (w.ownsRow 0 192 257 (.slice ua D.und.length uc) D.und.length (undCells D.und)∧∀ g,(Value.slice ua D.und.length uc).ownBlock=some g→g<w.heap.size∧g≠pm):=
  ⟨hu,fun g hg=>⟨(hu.lt g hg).2,by
   obtain ⟨_,⟨_,_,h,_⟩,_⟩:=hm
   intro e;subst e
   rcases hu.2 with h1|⟨g',cap,cur,hv,_,hh,_⟩
   ·rw [h1.1] at hg;simp [Value.ownBlock] at hg
   ·rw [hv] at hg;simp [Value.ownBlock] at hg;subst hg;rw [h] at hh;cases hh⟩⟩
 have HL:Hid (LastAt (w.alloc (.cells (zBr (i,s)).toArray 192)).drew pm D.und):=hm.keep (Below.heap_alloc _ _ _ hm.lt)
 clear hok hhas hoff hs hp hpd hu hm hF hb
 go_enter Tryz.func135,Tryz.ntmps135
 go_upto_region 7 with (first|(go_at_call 129;refine Hc.out.mono ?_;rintro e w' ⟨rfl,rfl⟩))
 go_upto_region 8 with (first|((with_reducible refine wpList_build_as ?_ 192 [(0,.tmp 22)] ?_ (rawWay i).toArray ?_ ?_);(rfl);(rfl);(exact built_write i))|((with_reducible refine wpList_store_top ?_ 192 (.tmp 7) (.tmp 23) ?_ _ (rawWay i).toArray _ ?_ ?_ (by rw [Tryz.zeroCells192_size,List.size_toArray,rawWay_length]) (by rw [info_write,List.size_toArray,rawWay_length]) (rawWay_one i) ?_);(rfl);(rfl);(rfl);(rfl)))
 go_frame
 go_upto_region 9 with (first|((with_reducible refine wpList_copy_str_top ?_ (.tmp 25) (.tmp 26) 93 9 5 ?_ Tryz.underlying93 info_byte 1 256 256 s (rawWay i) (zBr (i,s)) _ ?_ ?_ (by rw [rawWay_length];simp [Hs.out]) (lay_way i s Hs.out) ?_);(rfl);(rfl);(rfl);(rfl)))
 go_frame
 refine wp_region_tail 10 (by kernel_rfl) (by kernel_rfl) ?_
 simp only [List.take_succ_cons,List.take_zero,List.drop_succ_cons,List.drop_zero]
 repeat still_step
 refine wpStill_nil ?_
 (with_reducible refine wpList_update_last ?_ (.tmp 31) (.tmp 32) (.tmp 37) ?_ pm D.und i s ?_ ?_ ?_ HL.out (by omega) hul ?_);rfl;rfl;rfl;rfl;rfl
 intro w1 hw1
 have hsz:(w.alloc (.cells (zBr (i,s)).toArray 192)).drew.heap.size=w.heap.size+1:=by simp
 have hk:∀ k,k≤w.heap.size→k≠pm→w1.heap[k]? = (w.alloc (.cells (zBr (i,s)).toArray 192)).heap[k]?:=fun k h1 h2=>hw1.out.2.block k (by rw [hsz];omega) (by simpa using h2)
 have d1:w1.cell? ⟨p,1,none⟩=some (.slice ua D.und.length uc):=by
  rw [World.cell?_of_block (hk p (by omega) (by omega)),← c1];exact World.cell?_of_block (Below.heap_alloc _ _ _ lp)
 have e1:w1.frozen? ⟨p,1,none⟩=false:=by
  rw [World.frozen?_of_block (hk p (by omega) (by omega)),← f1];exact World.frozen?_of_block (Below.heap_alloc _ _ _ lp)
 have Hr:Hid (w1.rangeAt w.heap.size 0 (zBr (i,s))):=fun j v hj=>(World.cell?_of_block (w:=w.alloc _) (hk w.heap.size (by omega) (by omega))).trans (range_new w _ _ j v hj)
 have hk1:p<w1.heap.size:=by have:=hw1.out.2.size;rw [hsz] at this;omega
 have HO:Hid ((w1.drew.alloc (.cells (zBr (i,s)).toArray 192)).ownsRow 0 192 257 (.slice ua D.und.length uc) D.und.length (undCells D.und)):=by
  refine ownsRow_keep (w:=w) HU.out.1 (fun g hg=>?_)
  have h2:=HU.out.2 g hg
  have h3:=hw1.out.2.size
  rw [hsz] at h3
  exact (Below.heap_alloc w1.drew _ g (by simpa using (by omega:g<w1.heap.size))).trans ((hk g (by omega) h2.2).trans (Below.heap_alloc _ _ _ h2.1))
 have Hk:=Lib.hid hk
 clear hk
 go_upto_region 10 with (fail)
 refine wp_region_reads 6 7 (fun w'=>w'.cell? ⟨p,1,none⟩=some (.slice ua D.und.length uc)∧w'.rangeAt w.heap.size 0 (zBr (i,s))) (by kernel_rfl) ?hBB ?hQQ ?hSS ?hMM
 case hBB=>kernel_rfl
 case hQQ=>intro c a d v w h;cases d <;> exact h
 case hSS=>exact ⟨d1,Hr.out⟩
 simp only [List.take_succ_cons,List.take_zero,List.drop_succ_cons,List.drop_zero,Nat.reduceSub]
 refine readsT_move rfl _ rfl (.pointer (some ⟨p,0,none⟩)) rfl ?_
 go_frame
 refine readsT_move rfl _ rfl (.pointer (some ⟨p,0,none⟩)) rfl ?_
 go_frame
 refine readsT_pure rfl rfl (.pointer (some ⟨p,0,none⟩)) (fun w'=>by go_simp) ?_
 go_frame
 refine readsT_pure rfl rfl (.pointer (some ⟨p,1,none⟩)) (fun w'=>by go_simp) ?_
 go_frame
 refine readsT_load rfl rfl (.slice ua D.und.length uc) (fun w' hS=>by have hS1:=hS.1;clear hS;go_simp) ?_
 go_frame
 refine readsT_load_mid rfl 192 (.tmp 7) rfl w.heap.size 0 rfl (zBr (i,s)) _ (fun w' hS=>hS.2) Tryz.underlying192 rfl (by rw [info_write,wayCells_len _ _ Hs.out]) ?_
 go_frame
 unfold readsT
 refine earlyT_step rfl (wp_buildSlice_one 136 192 (.tmp 43) rfl Tryz.underlying136 257 (by kernel_rfl) (.agg (zBr (i,s)).toArray) rfl (zBr (i,s)).toArray rfl (by rw [List.size_toArray,wayCells_len _ _ Hs.out]) (by omega) (by omega) ⟨?_,?_⟩)
 ·exact ⟨(World.cell?_of_block (w:=w1.drew) (Below.heap_alloc _ _ _ (by have:=hk1;simpa using this))).trans d1,World.rangeAt_alloc Hr.out _⟩
 unfold earlyT
 go_frame
 have hB:(w1.drew.alloc (.cells (zBr (i,s)).toArray 192)).rangeAt w1.heap.size 0 (zBr (i,s)):=range_new w1.drew _ _
 (with_reducible refine wpList_append_row ?_ (.tmp 42) (.tmp 44) 136 192 ?_ Tryz.underlying136 257 264 (by kernel_rfl) (by omega) (.slice ua D.und.length uc) D.und.length (undCells D.und) ?_ HO.out w1.heap.size 0 1 1 (zBr (i,s)) ?_ (by rw [wayCells_len _ _ Hs.out]) hB (wayCells_one _) (by unfold maxLen;omega) (by omega) ?_);rfl;rfl;rfl;rfl
 intro vn w3 hw3
 obtain ⟨va,vc,rfl⟩:=own_shape hw3.out.1
 have HP:=Lib.hid (pushed HD.out.1 HD.out.2.1 HD.out.2.2.1 HD.out.2.2.2.1 HD.out.2.2.2.2.1 HD.out.2.2.2.2.2.1 HD.out.2.2.2.2.2.2 hi Hs.out hw1.out hw3.out)
 have d3:=HP.out.2.2.1
 have e3:=HP.out.2.2.2
 go_frame
 go_upto_region 11 with (fail)
 obtain ⟨D1,hD1⟩:∃ D1,D1=D.push i s:=⟨_,rfl⟩
 obtain ⟨w4,hw4⟩:∃ w4,w4=w3.setCell ⟨p,1,none⟩ (.slice va (D.und.length+1) vc):=⟨_,rfl⟩
 have G:=goes_any w4 (grow F w w4) p D1 (by rw [hw4,hD1];exact HP.out.1)
 rw [← hw4]
 have hdd:D1.dead=D.dead:=by rw [hD1];rfl
 rw [hdd] at G
 have HF4:Hid (Fr F w w4):=by rw [hw4];exact HP.out.2.1
 have HD1:=Lib.hid hD1
 have h12':=h12
 have hh12:ErrAt w4 E 12:=h12.keep HF4.out (fun k hk=>(HD.out.2.2.2.2.2.1 k hk).1) (by decide)
 have HE:Hid (D.writeE i s=if D.dead then 12 else 0):=by
  have h1:D.off=false:=hoff'.out
  have h2:D.has i=true:=by simp [Dsk.has,hi]
  show _=_
  simp [Dsk.writeE,h1,h2,Hs.out]
 have HW:Hid (D.writeD i s=if D.dead then D1.gone else { D1.gone with writes:=w64 (D1.gone.writes+1) }):=by
  have h1:D.off=false:=hoff'.out
  have h2:D.has i=true:=by simp [Dsk.has,hi]
  show _=_
  rw [HD1.out]
  simp [Dsk.writeD,h1,h2,Hs.out,Dsk.push]
 have Hgr:Hid (∀ w',Fr (grow F w w4) w4 w'→Fr F w w'):=fun w' h=>HF4.out.trans h (fun k hk=>hk.imp id (fun q=>q.1))
 have Hb:=Lib.hid HD.out.2.2.2.2.2.1
 clear hD1 hdd hw4 HP hw3 hw1 HO d1 e1 d3 e3 c1 c2 c3 f1 HL HU h12' HD hB
 by_cases hdead:D.dead=true
 ·rw [hdead] at G
  have GH:=Lib.hid G
  have Hdead:=Lib.hid hdead
  have H12:=Lib.hid hh12
  clear G hdead hh12
  go_upto_region 12 with (go_at_call 177;refine GH.out.mono ?_;rintro e w5 ⟨rfl,hd5⟩;have Hd5:=Lib.hid hd5;have e12:w5.cell? ⟨3,0,none⟩=some (errV E 12):=(H12.out.keep hd5.2 (fun k hk=>by rcases hk with hk|hk;exact (Hb.out k hk).1;have:=(Hb.out p Hp.out).1;omega) (by decide));clear hd5)
  go_wp2
  go_ret
  refine ⟨show Ending.returned (errV E 12)=.returned (errV E (D.writeE i s)) from by rw [HE.out,Hdead.out];rfl,grow F w w4,?_,Hgr.out _ Hd5.out.2,fun k hk=>hk.imp id (fun q=>q.1)⟩
  rw [HW.out,Hdead.out];exact Hd5.out.1
 ·have hdead:D.dead=false:=by simpa using hdead
  rw [hdead] at G
  have GH:=Lib.hid G
  have Hdead:=Lib.hid hdead
  clear G hdead hh12
  go_upto_region 13 with (go_at_call 177;refine GH.out.mono ?_;rintro e w5 ⟨rfl,hd5⟩;have c5:=hd5.1.cell.2.2.1;have f5:=hd5.1.cell.2.2.2.2.2 5;have Hd5:=Lib.hid hd5;clear hd5)
  go_wp2
  go_ret
  refine ⟨show Ending.returned Value.nilIface=.returned (errV E (D.writeE i s)) from by rw [HE.out,Hdead.out];rfl,grow F w w4,?_,Hgr.out _ (Hd5.out.2.setCell (.inl (.inl Hp.out)) _),fun k hk=>hk.imp id (fun q=>q.1)⟩
  rw [HW.out,Hdead.out]
  simp only [Bool.false_eq_true,if_false]
  refine Hd5.out.1.store 5 _ _ rfl rfl rfl (fun a u m=>?_) ?_
  ·rfl
  ·have:=Hd5.out.1.good;exact ⟨this.n1,this.n2,this.len,this.und,this.arm1,this.arm2⟩
end Go.Proofs.YtgipenahkmbelaaGreatDoor
