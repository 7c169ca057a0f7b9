/-
  Disk5, Disk6, Disk7, Disk8, Disk9, DiskA, Num, Sect, Script, DiskC.
-/
import Derived.Test.YtlnbkbfblhofbaaGreatDoorVAS
import Derived.Test.YtlnbkbfblhofbaaGreatDoorVAN
set_option maxRecDepth 100000
set_option maxHeartbeats 64000000
namespace Go.Proofs.YtlnbkbfblhofbaaGreatDoor
open Go Go.RowKit
open Go.Proofs.Tryz
theorem yRS (w:World) (F:Nat→Prop) (p:Nat) (D:Dsk) (E:Nat→Addr) (hd:DiskAt w F p D) (i:Int) (s:List UInt8) (h12:ErrAt w E 12) (ho:D.off=true) :
 Calls prog 105 #[zPp p,.int .i64 i,.string ⟨s.toArray⟩] w fun e w'=>e=.returned (yAr E 12)∧w=w':=by
 obtain ⟨c3,-⟩:=hd.cell
 have e12:w.cell? ⟨2,0,none⟩=some (yAr E 12):=h12
 rw [ho] at c3
 clear h12 hd ho
 go_enter func105,ntmps105
 go_wp2
 all_goals go_ret
 all_goals exact ⟨rfl,rfl⟩
theorem yRT (w:World) (F:Nat→Prop) (p:Nat) (D:Dsk) (E:Nat→Addr) (hd:DiskAt w F p D) (i:Int) (s:List UInt8) (h6:ErrAt w E 6) (ho:D.off=false) (hh:D.has i=false) :
 Calls prog 105 #[zPp p,.int .i64 i,.string ⟨s.toArray⟩] w fun e w'=>e=.returned (yAr E 6)∧w=w':=by
 have Hc:=Lib.hid (yHz w F p D hd i)
 obtain ⟨c3,-⟩:=hd.cell
 have e6:w.cell? ⟨5,0,none⟩=some (yAr E 6):=h6
 rw [ho] at c3
 rw [hh] at Hc
 clear h6 hd ho hh
 go_enter func105,ntmps105
 go_wp2_with (first|(go_at_call 117;refine Hc.out.mono ?_;rintro e w' ⟨rfl,rfl⟩))
 all_goals go_ret
 all_goals exact ⟨rfl,rfl⟩
theorem yP4 (w:World) (F:Nat→Prop) (p:Nat) (D:Dsk) (E:Nat→Addr) (hd:DiskAt w F p D) (i:Int) (s:List UInt8) (h7:ErrAt w E 7) (ho:D.off=false) (hh:D.has i=true) (hs:s.length≠256) :
 Calls prog 105 #[zPp p,.int .i64 i,.string ⟨s.toArray⟩] w fun e w'=>e=.returned (yAr E 7)∧w=w':=by
 have Hc:=Lib.hid (yHz w F p D hd i)
 obtain ⟨c3,-⟩:=hd.cell
 have e7:w.cell? ⟨0,0,none⟩=some (yAr E 7):=h7
 rw [ho] at c3
 rw [hh] at Hc
 have hs1:((s.length:Int) != 256)=true:=by rw [bne_iff_ne];omega
 clear h7 hd ho hh hs
 go_enter func105,ntmps105
 go_wp2_with (first|(go_at_call 117;refine Hc.out.mono ?_;rintro e w' ⟨rfl,rfl⟩))
 all_goals go_ret
 all_goals exact ⟨rfl,rfl⟩
theorem yRU (w:World) (F:Nat→Prop) (p:Nat) (D:Dsk) (E:Nat→Addr) (hd:DiskAt w F p D) (i:Int) (s:List UInt8) (h12:ErrAt w E 12) (h6:ErrAt w E 6) (h7:ErrAt w E 7) (hul:D.und.length<1073741824) :
 Calls prog 105 #[zPp p,.int .i64 i,.string ⟨s.toArray⟩] w fun e w'=>e=.returned (yAr E (D.writeE i s))∧∃ F',DiskAt w' F' p (D.writeD i s)∧Fr F w w'∧∀ k,F' k→F k∨w.heap.size≤k:=by
 have same:∀ e w',e=w→w=w'→∀ D',D'=D→∃ F',DiskAt w' F' p D'∧Fr F w w'∧∀ k,F' k→F k∨w.heap.size≤k:=by
  rintro _ w'-rfl _ rfl
  exact ⟨F,hd,Fr.refl _ _,fun k hk=>.inl hk⟩
 by_cases ho:D.off=true
 ·have e1:D.writeE i s=12:=by simp [Dsk.writeE,ho]
  have e2:D.writeD i s=D:=by simp [Dsk.writeD,ho]
  rw [e1,e2]
  refine (yRS w F p D E hd i s h12 ho).mono ?_
  rintro e w' ⟨rfl,h⟩
  exact ⟨rfl,same w w' rfl h _ rfl⟩
 have ho:D.off=false:=by simpa using ho
 by_cases hh:D.has i=true
 ·by_cases hs:s.length=256
  ·have hi:0≤i∧i<D.n:=by simpa [Dsk.has] using hh
   obtain ⟨j,rfl⟩:=Int.eq_ofNat_of_zero_le hi.1
   exact yUE w F p D E hd j s h12 ho zO hs hul
  ·have e1:D.writeE i s=7:=by simp [Dsk.writeE,ho,hh,hs]
   have e2:D.writeD i s=D:=by simp [Dsk.writeD,ho,hh,hs]
   rw [e1,e2]
   refine (yP4 w F p D E hd i s h7 ho hh hs).mono ?_
   rintro e w' ⟨rfl,h⟩
   exact ⟨rfl,same w w' rfl h _ rfl⟩
 ·have hh:D.has i=false:=by simpa using hh
  have e1:D.writeE i s=6:=by simp [Dsk.writeE,ho,hh]
  have e2:D.writeD i s=D:=by simp [Dsk.writeD,ho,hh]
  rw [e1,e2]
  refine (yRT w F p D E hd i s h6 ho hh).mono ?_
  rintro e w' ⟨rfl,h⟩
  exact ⟨rfl,same w w' rfl h _ rfl⟩
structure Flushing (w:World) (F:Nat→Prop) (p pd pm:Nat) (uv:Value) (D:Dsk) (img:List UInt8) (wr:World):Prop where
 hp:Blk wr p [.slice (some ⟨pd,0,none⟩) D.n D.n,uv,.map (some pm),.bool D.off,.int .i64 D.armed,.int .i64 D.writes,.int .i64 D.flushes,.int .i64 D.life] 70
 hpd:Blk wr pd (bvs img) 73
 hu:wr.ownsRow 0 184 257 uv D.und.length (yCR D.und)
 hm:LastAt wr pm D.und
 fr:Fr F w wr
theorem yK4 (img b:List UInt8) (o:Nat):lay (bvs img) o (bvs b)=bvs (lay img o b):=by simp [lay,bvs,List.map_take,List.map_drop]
theorem Flushing.next {w wr:World} {F:Nat→Prop} {p pd pm:Nat} {uv:Value} {D:Dsk} {img:List UInt8} (h:Flushing w F p pd pm uv D img wr) (hF:F pd) (O:Obj) (j:Nat) (b:List UInt8) :
 Flushing w F p pd pm uv D (lay img j b) ((wr.alloc O).drew.setRow pd (bvs (lay img j b)).toArray):=by
 obtain ⟨hp,hpd,hu,hm,fr⟩:=h
 have n1:p≠pd:=hp.ne hpd zX
 have n3:pm≠pd:=by obtain ⟨_,⟨_,_,h,_⟩,_⟩:=hm;exact hpd.ne_map h
 have k:∀ i,i<wr.heap.size→i≠pd→((wr.alloc O).drew.setRow pd (bvs (lay img j b)).toArray).heap[i]? = wr.heap[i]?:=fun i h1 h2=>
  (setRow_other _ _ _ _ h2).trans (Below.heap_alloc _ _ _ h1)
 have hpd':Blk (wr.alloc O).drew pd (bvs img) 73:=hpd.keep (Below.heap_alloc _ _ _ hpd.lt)
 exact ⟨hp.keep (k p hp.lt n1),hpd'.row _,yCe hu (fun g hg=>k g (hu.lt g hg).2 (hpd.ne_row hu hg zX)),hm.keep (k pm hm.lt n3),((fr.alloc _).drew).setRow (.inl hF) _⟩
theorem yXg (x:Nat × List UInt8):(yAN x).toArray.all (·.oneCell')=true:=by
 rw [Array.all_eq_true_iff_forall_mem]
 intro v hv
 exact yH8 x v (by simpa using hv)
theorem yUF (w:World) (F:Nat→Prop) (p:Nat) (D:Dsk) (hd:DiskAt w F p D) (hoff:D.off=false) (hdead:D.dead=false) (hul:D.und.length<1073741824) :
 Calls prog 106 #[zPp p] w fun e w'=>e=.returned .nilIface∧DiskAt w' F p D.flushD∧Fr F w w':=by
 have HG:=Lib.hid (yK2 w F p D hd)
 obtain ⟨c3,-⟩:=hd.cell
 rw [hoff] at c3
 rw [hdead] at HG
 have HR:Hid (D.flushD={ D.gone with img:=yBe D.img D.und,und:=[],flushes:=w64 (D.flushes+1) }):=by
  show _=_
  simp [Dsk.flushD,hoff,hdead]
 clear hd hoff hdead
 go_enter func106,ntmps106
 go_upto_region 3 with (go_at_call 146;refine HG.out.mono ?_;rintro e w1 ⟨rfl,hd1⟩;have Hd1:=Lib.hid hd1;clear hd1)
 obtain ⟨hd1,hf1⟩:=Hd1
 obtain ⟨pd,pm,uv,hp,hpd,hu,hm,hF,hb,hok⟩:=hd1
 obtain ⟨ua,uc,rfl⟩:=yIS hu
 have c1:w1.cell? ⟨p,1,none⟩=some (.slice ua D.gone.und.length uc):=by rw [hp.cell];rfl
 have hul':D.gone.und.length<1073741824:=by rw [Dsk.gone_und];exact hul
 have HI:=Lib.hid (And.intro hF (And.intro hb hok))
 have HI0:=Lib.hid (Flushing.mk (w:=w1) (F:=F) (img:=D.gone.img) hp hpd hu hm (Fr.refl F w1))
 have Hf1:=Lib.hid hf1
 clear hp hpd hu hm hF hb hok hf1 c3
 go_wp2_with (fail)
 go_loopw [19] (fun x wr=>∃ k:Nat,k≤D.gone.und.length∧x=.int .i64 k∧Hid (Flushing w1 F p pd pm (.slice ua D.gone.und.length uc) D.gone (yBe D.gone.img (D.gone.und.take k)) wr)) (fun x _=>D.gone.und.length-(intOf x).toNat)
 case atStart=>exact ⟨0,zLA _,rfl,by rw [List.take_zero];exact HI0.out⟩
 case round=>
  obtain ⟨k,hk,rfl,HK⟩:=hrel
  have hokg:=HI.out.2.2
  have b2:=hokg.n2
  by_cases hlt:k<D.gone.und.length
  ·obtain ⟨j,b,hkj⟩:∃ j b,D.gone.und[k]? = some (j,b):=⟨(D.gone.und[k]).1,(D.gone.und[k]).2,by rw [zLb hlt]⟩
   have hjb:=hokg.und _ (zLk hkj)
   have hj:j<D.gone.n:=hjb.1
   have Hbl:Hid (b.length=256):=hjb.2
   obtain ⟨g,cap,hv,hc1,hc2,hgl,hg⟩:=yOW HK.out.hu hokg.und k j b hkj
   cases hv
   unfold maxLen at hc2
   have c0:wr.cell? ⟨p,0,none⟩=some (.slice (some ⟨pd,0,none⟩) D.gone.n D.gone.n):=by rw [HK.out.hp.cell];rfl
   have lpr:=HK.out.hp.lt
   have Hg:=Lib.hid hg
   have Hkj:=Lib.hid hkj
   clear hokg hjb hg hkj
   have HS:Hid ((wr.alloc (.cells (yAN (j,b)).toArray 184)).drew.cell? ⟨p,0,none⟩=some (.slice (some ⟨pd,0,none⟩) D.gone.n D.gone.n)∧(wr.alloc (.cells (yAN (j,b)).toArray 184)).drew.cell? ⟨wr.heap.size,0,none⟩=some (.int .i64 j)∧(wr.alloc (.cells (yAN (j,b)).toArray 184)).drew.rangeAt wr.heap.size 1 (bvs b)):=by
    have hrn:=yEk wr (yAN (j,b)) 184
    refine ⟨(World.cell?_of_block (w:=wr) (Below.heap_alloc _ _ _ lpr)).trans c0,hrn 0 _ rfl,fun z v hz=>?_⟩
    have:=hrn (z+1) v (by simpa [yAN] using hz)
    rw [show 1+z=0+(z+1) by omega];exact this
   have HB2:Hid (Blk (wr.alloc (.cells (yAN (j,b)).toArray 184)).drew pd (bvs (yBe D.gone.img (D.gone.und.take k))) 73):=HK.out.hpd.keep (Below.heap_alloc _ _ _ HK.out.hpd.lt)
   have Hlen:Hid ((yBe D.gone.img (D.gone.und.take k)).length=256*D.gone.n):=yDr _ _ _ HI.out.2.2.len (fun x hx=>HI.out.2.2.und x (List.mem_of_mem_take hx))
   go_upto_region 6 with (first|((with_reducible refine wpList_load_mid ?_ 184 (.tmp 21) ?_ g (k*257) ?_ (yAN (j,b)) _ Hg.out underlying184 rfl (by rw [yFK,yCM _ _ Hbl.out]) ?_);(rfl);(rfl);(rfl))|((with_reducible refine yBr ?_ 184 (.tmp 4) (.tmp 22) ?_ _ (yAN (j,b)).toArray _ ?_ ?_ (by rw [zeroCells184_size,List.size_toArray,yCM _ _ Hbl.out]) (by rw [yFK,List.size_toArray,yCM _ _ Hbl.out]) (yXg _) ?_);(rfl);(rfl);(rfl);(rfl)))
   go_frame
   refine yDI 9 9 (fun w'=>w'.cell? ⟨p,0,none⟩=some (.slice (some ⟨pd,0,none⟩) D.gone.n D.gone.n)∧w'.cell? ⟨wr.heap.size,0,none⟩=some (.int .i64 j)∧w'.rangeAt wr.heap.size 1 (bvs b)) zK ?hBB ?hQQ ?hSS ?hMM
   case hBB=>kernel_rfl
   case hQQ=>intro c a d v w h;cases d <;> exact h
   case hSS=>exact HS.out
   simp only [List.take_succ_cons,List.take_zero,List.drop_succ_cons,zLo,Nat.reduceSub]
   refine yCJ rfl _ rfl (zPp p) rfl ?_
   go_frame
   refine yBf rfl rfl (zPp p) (fun w'=>by go_simp) ?_
   go_frame
   refine yBf rfl rfl (zPp p) (fun w'=>by go_simp) ?_
   go_frame
   refine yDJ rfl rfl (.slice (some ⟨pd,0,none⟩) D.gone.n D.gone.n) (fun w' hS=>by have hS1:=hS.1;clear hS;go_simp) ?_
   go_frame
   refine yBf rfl rfl (.pointer (some ⟨wr.heap.size,0,none⟩)) (fun w'=>by go_simp) ?_
   go_frame
   refine yDJ rfl rfl (.int .i64 j) (fun w' hS=>by have hS1:=hS.2.1;clear hS;go_simp) ?_
   go_frame
   refine yBf rfl rfl (.pointer (some ⟨wr.heap.size,1,none⟩)) (fun w'=>by go_simp) ?_
   go_frame
   refine yFe rfl 73 (.tmp 29) rfl wr.heap.size 1 rfl (bvs b) _ (fun w' hS=>hS.2.2) underlying73 rfl (by rw [yB7,yBg,Hbl.out]) ?_
   go_frame
   refine yBf rfl rfl (.pointer (some ⟨pd,j*256,none⟩)) (fun w'=>by go_simp) ?_
   go_frame
   unfold yD2 yEX
   (with_reducible refine yIo ?_ 73 (.tmp 31) (.tmp 30) ?_ pd (j*256) _ (bvs b) 73 ?_ ?_ HB2.out (by rw [yBg,yBg,Hlen.out,Hbl.out];omega) (by rw [yB7,yBg,Hbl.out]) (yGf _) ?_);rfl;rfl;rfl;rfl
   go_wp2
   go_roundw
   case rel=>
    refine ⟨k+1,zO,by go_num,?_⟩
    have:=HK.out.next HI.out.1.2.1 (.cells (yAN (j,b)).toArray 184) (j*256) b
    rw [yIL _ _ _ _ _ Hkj.out,yK4]
    exact this
   case measure=>simp [intOf];omega
  ·have hkk:k=D.gone.und.length:=by omega
   obtain ⟨Df,hDf⟩:∃ Df:Dsk,Df={ D.gone with img:=yBe D.gone.img D.gone.und }:=⟨_,rfl⟩
   have hlen:(yBe D.gone.img D.gone.und).length=256*D.gone.n:=yDr _ _ _ hokg.len hokg.und
   have hdr:DiskAt wr F p Df:=by
    have hk2:=HK.out
    rw [hkk,List.take_length] at hk2
    rw [hDf]
    exact ⟨pd,pm,_,hk2.hp,hk2.hpd,hk2.hu,hk2.hm,HI.out.1,fun i hi=>⟨(HI.out.2.1 i hi).1,Nat.lt_of_lt_of_le (HI.out.2.1 i hi).2 hk2.fr.size⟩,⟨hokg.n1,hokg.n2,hlen,hokg.und,hokg.arm1,hokg.arm2⟩⟩
   have HSt:=Lib.hid (yNG wr F p Df hdr)
   have HDf:Hid (D.flushD={ Df.clr with flushes:=w64 (Df.clr.flushes+1) }):=by
    show _=_
    rw [HR.out,hDf]
    simp only [Dsk.clr,Dsk.gone_und,Dsk.gone_img,Dsk.gone_flushes]
   have HFr:Hid (Fr F w wr):=Hf1.out.trans' HK.out.fr
   clear hokg hkk hDf hlen hdr HK
   go_upto_region 10 with (go_at_call 147;refine HSt.out.mono ?_;rintro e w2 ⟨rfl,hd2⟩;have c6:=hd2.1.cell.2.2.2.1;have f6:=hd2.1.cell.2.2.2.2.2 6;have Hd2:=Lib.hid hd2;clear hd2)
   go_wp2
   go_ret
   refine ⟨rfl,?_,(HFr.out.trans' Hd2.out.2).setCell (.inl HI.out.1.1) _⟩
   rw [HDf.out]
   refine Hd2.out.1.store 6 _ _ rfl rfl rfl (fun a u m=>rfl) ?_
   have:=Hd2.out.1.good;exact ⟨this.n1,this.n2,this.len,this.und,this.arm1,this.arm2⟩
theorem yP5 (w:World) (F:Nat→Prop) (p:Nat) (D:Dsk) (E:Nat→Addr) (hd:DiskAt w F p D) (h12:ErrAt w E 12) (hoff:D.off=false) (hdead:D.dead=true) :
 Calls prog 106 #[zPp p] w fun e w'=>e=.returned (yAr E 12)∧DiskAt w' F p D.gone∧Fr F w w':=by
 have HG:=Lib.hid (yK2 w F p D hd)
 have HB:=Lib.hid hd.bound
 obtain ⟨c3,-⟩:=hd.cell
 rw [hoff] at c3
 rw [hdead] at HG
 have H12:=Lib.hid h12
 clear hd hoff hdead h12
 go_enter func106,ntmps106
 go_upto_region 2 with (go_at_call 146;refine HG.out.mono ?_;rintro e w1 ⟨rfl,hd1⟩;have e12:w1.cell? ⟨2,0,none⟩=some (yAr E 12):=H12.out.keep hd1.2 (fun k hk=>(HB.out k hk).1) zX;have Hd1:=Lib.hid hd1;clear hd1)
 go_wp2
 go_ret
 exact ⟨rfl,Hd1.out⟩
theorem yRV (w:World) (F:Nat→Prop) (p:Nat) (D:Dsk) (E:Nat→Addr) (hd:DiskAt w F p D) (h12:ErrAt w E 12) (hoff:D.off=true) :
 Calls prog 106 #[zPp p] w fun e w'=>e=.returned (yAr E 12)∧w=w':=by
 obtain ⟨c3,-⟩:=hd.cell
 rw [hoff] at c3
 have e12:w.cell? ⟨2,0,none⟩=some (yAr E 12):=h12
 clear hd hoff h12
 go_enter func106,ntmps106
 go_wp2
 all_goals go_ret
 all_goals exact ⟨rfl,rfl⟩
theorem yRW (w:World) (F:Nat→Prop) (p:Nat) (D:Dsk) (E:Nat→Addr) (hd:DiskAt w F p D) (h12:ErrAt w E 12) (hul:D.und.length<1073741824) :
 Calls prog 106 #[zPp p] w fun e w'=>e=.returned (yAr E D.flushE)∧DiskAt w' F p D.flushD∧Fr F w w':=by
 cases hoff:D.off
 ·cases hdead:D.dead
  ·have e1:D.flushE=0:=by simp [Dsk.flushE,hoff,hdead]
   rw [e1]
   exact yUF w F p D hd hoff hdead hul
  ·have e1:D.flushE=12:=by simp [Dsk.flushE,hoff,hdead]
   have e2:D.flushD=D.gone:=by simp [Dsk.flushD,hoff,hdead]
   rw [e1,e2]
   exact yP5 w F p D E hd h12 hoff hdead
 ·have e1:D.flushE=12:=by simp [Dsk.flushE,hoff]
  have e2:D.flushD=D:=by simp [Dsk.flushD,hoff]
  rw [e1,e2]
  refine (yRV w F p D E hd h12 hoff).mono ?_
  rintro e w' ⟨rfl,rfl⟩
  exact ⟨rfl,hd,Fr.refl _ _⟩
def BoolsAt (w:World) (v:Value) (l:List Bool):Prop:=∃ a c,v=.slice a l.length c∧(l≠[]→∃ b o,a=some ⟨b,o,none⟩∧b<w.heap.size∧w.rangeAt b o (l.map .bool))∧(a=none→c=0)∧l.length≤c∧c≤maxLen
theorem Flushing.skip {w wr:World} {F:Nat→Prop} {p pd pm:Nat} {uv:Value} {D:Dsk} {img:List UInt8} (h:Flushing w F p pd pm uv D img wr) (O:Obj):Flushing w F p pd pm uv D img (wr.alloc O):=by
 obtain ⟨hp,hpd,hu,hm,fr⟩:=h
 exact ⟨hp.keep (Below.heap_alloc _ _ _ hp.lt),hpd.keep (Below.heap_alloc _ _ _ hpd.lt),hu.alloc _,hm.keep (Below.heap_alloc _ _ _ hm.lt),fr.alloc _⟩
theorem yJ9:(prog.info? 5).map (fun i=>(i.zero.map (·.cells.size),i.size,i.bytes))=some (some 1,1,1):=zK
theorem yRX (w:World) (F:Nat→Prop) (p:Nat) (D:Dsk) (hd:DiskAt w F p D) :
 Calls prog 15 #[zPp p] w fun e w'=>e=.returned (.string ⟨D.img.toArray⟩)∧Fr noB w w':=by
 obtain ⟨pd,pm,uv,hp,hpd,hu,hm,hF,hb,hok⟩:=hd
 have c0:w.cell? ⟨p,0,none⟩=some (.slice (some ⟨pd,0,none⟩) D.n D.n):=by rw [hp.cell];rfl
 have lp:=hp.lt
 have b2:=hok.n2
 have HI:=Lib.hid (And.intro hpd hok)
 clear hp hpd hu hm hF hb hok
 go_enter func15,ntmps15
 go_upto_region 2 with (first|((with_reducible refine yHw ?_ (.const (.int .i64 0)) (.tmp 11) 71 5 ?_ underlying71 1 1 yJ9 ((D.n:Int)*256) (D.n*256) ?_ ?_ zO zO (by unfold maxLen;omega) ?_);(rfl);(rfl);(rfl);(rfl);(intro w1 hw1)))
 have sz1:w.heap.size≤w1.heap.size:=hw1.out.2.size
 have d0:w1.cell? ⟨p,0,none⟩=some (.slice (some ⟨pd,0,none⟩) D.n D.n):=(World.cell?_of_block (hw1.out.2.block p lp zW)).trans c0
 clear c0
 go_wp2_with (fail)
 go_loopw [3,18] (fun v x wr=>∃ k:Nat,k≤D.n∧x=.int .i64 k∧(∃ a c,v=.slice a (k*256) c)∧Hid (wr.ownsRow 0 5 1 v (k*256) (bvs (D.img.take (k*256)))∧Fr noB w wr∧∀ g,v.ownBlock=some g→w.heap.size≤g)) (fun _ x _=>D.n-(intOf x).toNat)
 case atStart=>exact ⟨0,zLA _,rfl,⟨_,_,by rw [Nat.zero_mul]⟩,by rw [Nat.zero_mul,List.take_zero];exact hw1.out.1,(Fr.refl _ _).grown hw1.out.2 (fun k hk=>by cases hk),fun g hg=>by cases hg;exact Nat.le_refl _⟩
 case round=>
  obtain ⟨k,hk,rfl,⟨va,vc,rfl⟩,HR⟩:=hrel
  have hokl:=HI.out.2.len
  by_cases hlt:k<D.n
  ·obtain ⟨bs,hbs⟩:∃ bs,bs=cut D.img (k*256) 256:=⟨_,rfl⟩
   have Hbl:Hid (bs.length=256):=by rw [hbs];exact yBq _ _ _ zO
   have HRg:Hid (wr.rangeAt pd (k*256) (bvs bs)):=by
    intro z v hz
    have h1:=HI.out.1.range (o:=k*256) (n:=256)
    rw [yKM,yKL] at h1
    rw [hbs] at hz
    rw [HR.out.2.1.cell (a:=⟨pd,k*256+z,none⟩) HI.out.1.lt id]
    exact h1 z v hz
   have Htk:Hid (D.img.take ((k+1)*256)=D.img.take (k*256)++bs):=by
    rw [hbs];show _=_;rw [cut,zLH,List.take_add]
   have HO:Hid ((wr.alloc (.cells (bvs bs).toArray 73)).ownsRow 0 5 1 (.slice va (k*256) vc) (k*256) (bvs (D.img.take (k*256)))):=HR.out.1.alloc _
   have HN:=Lib.hid (yEk wr (bvs bs) 73)
   clear hbs hokl
   go_upto_region 5 with (first|((with_reducible refine wpList_load_mid ?_ 73 (.tmp 20) ?_ pd (k*256) ?_ (bvs bs) _ HRg.out underlying73 rfl (by rw [yB7,yBg,Hbl.out]) ?_);(rfl);(rfl);(rfl))|((with_reducible refine yBr ?_ 73 (.tmp 5) (.tmp 21) ?_ _ (bvs bs).toArray _ ?_ ?_ (by rw [zeroCells73_size,List.size_toArray,yBg,Hbl.out]) (by rw [yB7,List.size_toArray,yBg,Hbl.out]) (yKU _) ?_);(rfl);(rfl);(rfl);(rfl)))
   go_frame
   go_upto_region 6 with ((with_reducible refine yEl ?_ (.tmp 22) (.tmp 23) 71 5 ?_ underlying71 1 1 yJ9 zO (.slice va (k*256) vc) (k*256) (bvs (D.img.take (k*256))) ?_ HO.out wr.heap.size 0 256 256 (bvs bs) ?_ (by rw [yBg,Hbl.out]) HN.out (yGf _) (by unfold maxLen;omega) zO ?_);(rfl);(rfl);(rfl);(rfl);(intro v2 w2 hw2))
   go_wp2
   go_roundw
   case rel=>
    obtain ⟨h1,h2,h3⟩:=hw2
    refine ⟨k+1,zO,by go_num,?_,?_,?_,?_⟩
    ·rw [zLH];exact yIS h1
    ·rw [Htk.out,yPN,zLH];exact h1
    ·exact (HR.out.2.1.alloc _).grown h2 (fun g hg=>.inr (HR.out.2.2 g hg))
    ·intro g hg
     have:=HR.out.2.1.size
     rcases h3 with h3|h3
     ·rw [h3] at hg;exact HR.out.2.2 g hg
     ·rw [h3] at hg;simp at hg;omega
   case measure=>simp [intOf];omega
  ·have hkk:k=D.n:=by omega
   have n1:=HI.out.2.n1
   subst hkk
   obtain ⟨g,cap,hv,_,hg⟩:=yRj HR.out.1 zO
   cases hv
   have Hg:Hid (wr.rangeAt g 0 (bvs D.img)):=by
    have e:D.img.take (D.n*256)=D.img:=zLi zO
    rw [e] at hg;exact hg
   have Hl:Hid (D.n*256=D.img.length):=by show _=_;omega
   clear hg hokl
   go_wp2_with ((with_reducible refine yCI ?_ 71 9 5 (.tmp 26) ?_ underlying71 underlying5 underlying9 g 0 (D.n*256) vc D.img ?_ Hl.out Hg.out ?_);(rfl);(rfl);(rfl))
   go_ret
   exact ⟨rfl,HR.out.2.1⟩
theorem yP6 (m n:Nat) (hm:0<m):(madeCells (bvs (zs m)).toArray n).toList=bvs (zs n):=by
 have e:bvs (zs n)=List.replicate n (bv 0):=by simp [bvs,zs]
 rw [e,List.eq_replicate_iff]
 refine ⟨by simp [madeCells],fun b hb=>?_⟩
 simp only [madeCells,Array.toList_map,Array.toList_range,List.mem_map,List.mem_range,List.size_toArray,yBg,yDF] at hb
 obtain ⟨i,_,rfl⟩:=hb
 have hlt:i % m<m:=Nat.mod_lt _ hm
 have h2:(bvs (zs m))[i % m]? = some (bv 0):=by simp [bvs,zs,hlt]
 simp [Array.getElem!_eq_getD,Array.getD_eq_getD_getElem?,h2]
theorem yNI:(prog.info? 73).map (fun i=>(i.zero.map (·.cells),i.size,i.bytes))=some (some (bvs (zs 256)).toArray,256,256):=zK
theorem yRY (w:World) (n:Nat) (h1:1≤n) (h2:n≤65536) (hg:gB≤w.heap.size) :
 Calls prog 39 #[.int .i64 n] w fun e w'=>∃ p F,e=.returned (zPp p)∧DiskAt w' F p (Dsk.blank n)∧Fr noB w w'∧∀ k,F k→w.heap.size≤k:=by
 have hmm:=@run_makeMap prog
 have Hg:=Lib.hid hg
 clear hg
 go_enter func39,ntmps39
 go_wp2_with (first|((with_reducible refine yIp ?_ (.tmp 3) (.tmp 3) 66 73 ?_ underlying66 256 256 (bvs (zs 256)).toArray yNI (n:Int) n ?_ ?_ rfl zO (by unfold maxLen;omega) ?_);(rfl);(rfl);(rfl);(rfl);(intro w1 hw1)))
 go_ret
 obtain ⟨hb,hgr⟩:=hw1
 rw [yP6 256 _ zO] at hb
 have sz:w.heap.size<w1.heap.size:=hb.lt
 refine ⟨w1.heap.size+1,fun k=>w.heap.size≤k∧k<w1.heap.size+2,rfl,⟨w.heap.size,w1.heap.size,.slice none 0 0,?_,?_,World.ownsRow_nil _ _ _ _,?_,⟨⟨zO,zO⟩,⟨zO,zO⟩,⟨zO,zO⟩,fun g hg=>by simp [Value.ownBlock] at hg⟩,fun k hk=>⟨by have:=Hg.out;omega,by simp;omega⟩,Dsk.blank_ok n h1 h2⟩,?_,fun k hk=>hk.1⟩
 ·have:=heap_alloc_new (w1.alloc (.map #[] 0)) (.cells #[.slice (some ⟨w.heap.size,0,none⟩) n n,.slice none 0 0,.map (some w1.heap.size),.bool false,.int .i64 (-1),.int .i64 0,.int .i64 0,.int .i64 0] 70)
  simpa [Blk,Dsk.blank] using this
 ·have e:Blk w1 w.heap.size (bvs (Dsk.blank n).img) 73:=by
   show Blk w1 w.heap.size (bvs (zs (256*n))) _
   rw [Nat.mul_comm];exact hb
  exact e.keep ((Below.heap_alloc _ _ _ (by simp;omega)).trans (Below.heap_alloc _ _ _ sz))
 ·refine ⟨.map [],((World.ownsMap_made w1 _ _ _).alloc _).mono (zLA _),fun i=>⟨rfl,rfl⟩⟩
 ·exact (((Fr.refl noB w).grown hgr (fun k hk=>by cases hk)).alloc _).alloc _
theorem yXh (w:World) (n:Int) (E:Nat→Addr) (h6:ErrAt w E 6) (h:n<1∨65536<n) :
 Calls prog 17 #[.int .i64 n] w fun e w'=>e=.returned (.tuple #[.pointer none,yAr E 6])∧Fr noB w w':=by
 have e6:w.cell? ⟨5,0,none⟩=some (yAr E 6):=h6
 clear h6
 by_cases h1:n<1
 ·have hd:decide (n<1)=true:=by simpa using h1
  clear h
  go_enter func17,ntmps17
  go_wp2
  go_quiet (fail)
  all_goals go_wp2
  all_goals go_ret2
  all_goals exact ⟨rfl,(Fr.refl _ _).drewN _⟩
 ·have h2:65536<n:=by omega
  have hd:decide (n<1)=false:=by simpa using h1
  clear h
  go_enter func17,ntmps17
  go_wp2
  go_quiet (fail)
  all_goals go_wp2
  all_goals go_ret2
  all_goals exact ⟨rfl,(Fr.refl _ _).drewN _⟩
theorem yWi (w:World) (n:Nat) (h1:1≤n) (h2:n≤65536) (hg:gB≤w.heap.size) :
 Calls prog 17 #[.int .i64 n] w fun e w'=>∃ p F,e=.returned (.tuple #[zPp p,.nilIface])∧DiskAt w' F p (Dsk.blank n)∧Fr noB w w'∧∀ k,F k→w.heap.size≤k:=by
 have HB:=Lib.hid (yRY w n h1 h2 hg)
 clear hg
 go_enter func17,ntmps17
 go_wp2_with (go_at_call 39;refine HB.out.mono ?_;rintro e w1 ⟨p,F,rfl,hq⟩;have Hq:=Lib.hid hq;clear hq)
 all_goals go_ret2
 all_goals exact ⟨p,F,rfl,Hq.out⟩
theorem yMi (l:List UInt8) (a:Nat):(⟨l.toArray⟩:ByteArray).extract a l.length=⟨(l.drop a).toArray⟩:=by
 apply ByteArray.ext
 simp [ByteArray.data_extract]
 rw [zLi zW]
theorem Flushing.laid {w wr:World} {F:Nat→Prop} {p pd pm:Nat} {uv:Value} {D:Dsk} {img img':List UInt8} (h:Flushing w F p pd pm uv D img wr) (hF:F pd) :
 Flushing w F p pd pm uv D img' (wr.drew.setRow pd (bvs img').toArray):=by
 obtain ⟨hp,hpd,hu,hm,fr⟩:=h
 have n1:p≠pd:=hp.ne hpd zX
 have n3:pm≠pd:=by obtain ⟨_,⟨_,_,h,_⟩,_⟩:=hm;exact hpd.ne_map h
 have k:∀ i,i≠pd→(wr.drew.setRow pd (bvs img').toArray).heap[i]? = wr.heap[i]?:=fun i h2=>setRow_other _ _ _ _ h2
 have hpd':Blk wr.drew pd (bvs img) 73:=hpd
 exact ⟨hp.keep (k p n1),hpd'.row _,yCe hu (fun g hg=>k g (hpd.ne_row hu hg zX)),hm.keep (k pm n3),(fr.drew).setRow (.inl hF) _⟩
def part (l:List UInt8) (n k:Nat):List UInt8:=l.take (k*256)++zs (n*256-k*256)
theorem yNJ (l:List UInt8) (n k:Nat) (hl:l.length=n*256) (hk:k≤n):(part l n k).length=n*256:=by
 simp [part,yDF];omega
theorem yRZ (l:List UInt8) (n k:Nat) (hl:l.length=n*256) (hk:k<n):lay (part l n k) (k*256) (cut l (k*256) 256)=part l n (k+1):=by
 have h1:(l.take (k*256)).length=k*256:=by rw [zLg];omega
 have h2:(cut l (k*256) 256).length=256:=yBq _ _ _ zO
 unfold lay
 rw [h2]
 have e1:(part l n k).take (k*256)=l.take (k*256):=by rw [part,List.take_append_of_le_length zO,zLi zO]
 have e2:(part l n k).drop (k*256+256)=zs (n*256-(k+1)*256):=by
  rw [part,zLG,List.drop_eq_nil_of_le zO,h1]
  simp only [List.nil_append,zs,List.drop_replicate]
  congr 1;omega
 rw [e1,e2,part,zLH,List.take_add,zLd]
 rfl
theorem yR0 (l:List UInt8) (n:Nat):part l n 0=zs (n*256):=by simp [part]
theorem yUG (l:List UInt8) (n:Nat) (hl:l.length=n*256):part l n n=l:=by
 rw [part,zLi zO];simp [zs]
theorem yXi (w:World) (l:List UInt8) (n:Nat) (hl:l.length=n*256) (h1:1≤n) (h2:n≤65536) (hg:gB≤w.heap.size) :
 Calls prog 5 #[.string ⟨l.toArray⟩] w fun e w'=>∃ p F,e=.returned (.tuple #[zPp p,.nilIface])∧DiskAt w' F p (Dsk.of l)∧Fr noB w w'∧∀ k,F k→w.heap.size≤k:=by
 have HN:=Lib.hid (yWi w n h1 h2 hg)
 have hq:((l.length:Int) % 256 != 0)=false:=by rw [hl];simp
 have He:Hid ((l.length:Int) / 256=n):=by show _=_;omega
 have Hl:=Lib.hid hl
 have hlb:l.length≤16777216:=zO
 clear hl hg
 go_enter func5,ntmps5
 go_upto_region 6 with (go_at_call 17;rw [He.out];refine HN.out.mono ?_;rintro e w1 ⟨p,F,rfl,hq1⟩;have Hq:=Lib.hid hq1;clear hq1)
 obtain ⟨hd,hf,hFn⟩:=Hq
 obtain ⟨pd,pm,uv,hp,hpd,hu,hm,hF,hb,hok⟩:=hd
 have c0:w1.cell? ⟨p,0,none⟩=some (.slice (some ⟨pd,0,none⟩) n n):=by rw [hp.cell];rfl
 have lp:=hp.lt
 have HI:=Lib.hid (And.intro hF (And.intro hb (And.intro hf hFn)))
 have HI0:Hid (Flushing w1 F p pd pm uv (Dsk.blank n) (part l n 0) w1):=⟨hp,by rw [yR0,Nat.mul_comm];exact hpd,hu,hm,Fr.refl _ _⟩
 clear hp hpd hu hm hF hb hok hf hFn
 go_wp2_with (fail)
 go_loopw [27] (fun x wr=>∃ k:Nat,k≤n∧x=.int .i64 k∧Hid (Flushing w1 F p pd pm uv (Dsk.blank n) (part l n k) wr)) (fun x _=>n-(intOf x).toNat)
 case atStart=>exact ⟨0,zLA _,rfl,HI0⟩
 case round=>
  obtain ⟨k,hk,rfl,HR⟩:=hrel
  clear HI0 c0
  by_cases hlt:k<n
  ·have c0:wr.cell? ⟨p,0,none⟩=some (.slice (some ⟨pd,0,none⟩) n n):=by rw [HR.out.hp.cell];rfl
   have HB:Hid (Blk wr.drew pd (bvs (part l n k)) 73):=HR.out.hpd
   have hkl:k*256≤l.length:=by have:=Hl.out;omega
   have hk1:(0:Int)≤(k:Int)*256:=zO
   have hk2:(k:Int)*256≤(l.length:Int):=zO
   go_upto_region 9 with (fail)
   refine yDI 11 11 (fun w'=>w'.cell? ⟨p,0,none⟩=some (.slice (some ⟨pd,0,none⟩) n n)) zK ?_ ?_ c0 ?_
   ·kernel_rfl
   ·intro c a d v w h;cases d <;> exact h
   simp only [List.take_succ_cons,List.take_zero,List.drop_succ_cons,zLo,Nat.reduceSub]
   refine yCJ rfl _ rfl (zPp p) rfl ?_
   go_frame
   refine yBf rfl rfl (zPp p) (fun w'=>by go_simp) ?_
   go_frame
   refine yBf rfl rfl (zPp p) (fun w'=>by go_simp) ?_
   go_frame
   refine yDJ rfl rfl (.slice (some ⟨pd,0,none⟩) n n) (fun w' hS=>by have hS1:=hS;clear hS;go_simp) ?_
   go_frame
   refine yCJ rfl _ rfl (.int .i64 k) rfl ?_
   go_frame
   refine yBf rfl rfl (.pointer (some ⟨pd,k*256,none⟩)) (fun w'=>by go_simp) ?_
   go_frame
   refine yBf rfl rfl (.slice (some ⟨pd,k*256,none⟩) 256 256) (fun w'=>by go_simp) ?_
   go_frame
   refine yCJ rfl _ rfl (.string ⟨l.toArray⟩) rfl ?_
   go_frame
   refine yCJ rfl _ rfl (.int .i64 k) rfl ?_
   go_frame
   refine yBf rfl rfl (.int .i64 ((k:Int)*256)) (fun w'=>by have hw:IntKind.i64.wrap ((k:Int)*256)=(k:Int)*256:=IntWalk.i64_in _ zO;go_simp) ?_
   go_frame
   refine yBf rfl rfl (.string ⟨(l.drop (k*256)).toArray⟩) (fun w'=>by go_simp;rw [show ((k:Int)*256).toNat=k*256 by omega,yMi]) ?_
   go_frame
   unfold yD2 yEX
   (with_reducible refine yE8 ?_ (.tmp 36) (.tmp 40) 71 9 5 ?_ underlying71 yMg pd (k*256) 256 256 (l.drop (k*256)) _ 73 ?_ ?_ HB.out (by rw [yBg,yNJ _ _ _ Hl.out zO,zLg];omega) ?_);rfl;rfl;rfl;rfl
   go_wp2
   go_roundw
   case rel=>
    refine ⟨k+1,zO,by go_num,?_⟩
    have:=HR.out.laid HI.out.1.2.1 (img':=part l n (k+1))
    rw [← yRZ l n k Hl.out hlt] at this ⊢
    rw [yK4]
    exact this
   case measure=>simp [intOf];omega
  ·have hkk:k=n:=by omega
   go_wp2
   go_ret2
   have hl:=Hl.out
   have h3:=HR.out
   rw [hkk,yUG _ _ hl] at h3
   have e:Dsk.of l={ Dsk.blank n with img:=l }:=by
    have:l.length / 256=n:=zO
    unfold Dsk.of
    rw [this];rfl
   refine ⟨p,F,rfl,?_,HI.out.2.2.1.trans h3.fr (fun i hi=>.inr (HI.out.2.2.2 i hi)),HI.out.2.2.2⟩
   rw [e]
   exact ⟨pd,pm,uv,h3.hp,h3.hpd,h3.hu,h3.hm,HI.out.1,fun i hi=>⟨(HI.out.2.1 i hi).1,Nat.lt_of_lt_of_le (HI.out.2.1 i hi).2 h3.fr.size⟩,⟨h1,h2,by show l.length=256*n;omega,by simp [Dsk.blank],by simp [Dsk.blank],by simp [Dsk.blank]⟩⟩
theorem yR1 (w:World) (l:List UInt8) (E:Nat→Addr) (h7:ErrAt w E 7) (hl:l.length % 256≠0) (hlb:l.length≤9223372036854775807) :
 Calls prog 5 #[.string ⟨l.toArray⟩] w fun e w'=>e=.returned (.tuple #[.pointer none,yAr E 7])∧Fr noB w w':=by
 have e7:w.cell? ⟨0,0,none⟩=some (yAr E 7):=h7
 have hq:((l.length:Int) % 256 != 0)=true:=by rw [bne_iff_ne];omega
 clear h7 hl
 go_enter func5,ntmps5
 go_wp2
 go_quiet (fail)
 all_goals go_wp2
 all_goals go_ret2
 all_goals exact ⟨rfl,(Fr.refl _ _).drewN _⟩
theorem yP7 (w:World) (l:List UInt8) (E:Nat→Addr) (h6:ErrAt w E 6) (hl:l.length % 256=0) (hlb:l.length≤9223372036854775807) (h:l.length / 256<1∨65536<l.length / 256) :
 Calls prog 5 #[.string ⟨l.toArray⟩] w fun e w'=>e=.returned (.tuple #[.pointer none,yAr E 6])∧Fr noB w w':=by
 have HN:=Lib.hid (yXh w ((l.length / 256:Nat):Int) E h6 zO)
 have hq:((l.length:Int) % 256 != 0)=false:=by rw [bne_eq_false_iff_eq];omega
 have He:Hid ((l.length:Int) / 256=((l.length / 256:Nat):Int)):=by show _=_;omega
 clear h6 hl h
 have hne:yAr E 6=.iface 281 (.pointer (some (E 6))):=rfl
 rw [hne] at HN ⊢
 clear hne
 go_enter func5,ntmps5
 go_wp2_with (go_at_call 17;rw [He.out];refine HN.out.mono ?_;rintro e w1 ⟨rfl,hf⟩;have Hf:=Lib.hid hf;clear hf)
 all_goals go_ret2
 all_goals exact ⟨rfl,Hf.out⟩
structure ErrsAt (w:World) (E:Nat→Addr):Prop where
 at_:∀ k,1≤k→k≤37→ErrAt w E k
 obj:∀ k,1≤k→k≤37→∃ ca ta,w.heap[(E k).block]? = some (.cells ca ta (0,0))
 inj:∀ j k,1≤j→j≤37→1≤k→k≤37→E j=E k→j=k
def yEg (E:Nat→Addr):List Value:=[yAr E 1,yAr E 2,yAr E 3,yAr E 4,yAr E 5,yAr E 6,yAr E 7,yAr E 8,yAr E 9,yAr E 10,yAr E 11,yAr E 12,yAr E 13,yAr E 14,yAr E 15,yAr E 16,yAr E 17,yAr E 18,yAr E 19,yAr E 20,yAr E 21,yAr E 22,yAr E 23,yAr E 24,yAr E 25,yAr E 26,yAr E 27,yAr E 28,yAr E 29,yAr E 30,yAr E 31,yAr E 32,yAr E 33,yAr E 34,yAr E 35,yAr E 36,yAr E 37]
theorem yP8 (E:Nat→Addr):prog.built 74 [(0,yAr E 1),(1,yAr E 2),(2,yAr E 3),(3,yAr E 4),(4,yAr E 5),(5,yAr E 6),(6,yAr E 7),(7,yAr E 8),(8,yAr E 9),(9,yAr E 10),(10,yAr E 11),(11,yAr E 12),(12,yAr E 13),(13,yAr E 14),(14,yAr E 15),(15,yAr E 16),(16,yAr E 17),(17,yAr E 18),(18,yAr E 19),(19,yAr E 20),(20,yAr E 21),(21,yAr E 22),(22,yAr E 23),(23,yAr E 24),(24,yAr E 25),(25,yAr E 26),(26,yAr E 27),(27,yAr E 28),(28,yAr E 29),(29,yAr E 30),(30,yAr E 31),(31,yAr E 32),(32,yAr E 33),(33,yAr E 34),(34,yAr E 35),(35,yAr E 36),(36,yAr E 37)]=some (yEg E).toArray:=zK
theorem yNK (E:Nat→Addr):(yEg E).toArray.all (·.oneCell')=true:=zK
theorem yUH (w:World) (E:Nat→Addr) (h:∀ k,1≤k→k≤37→ErrAt w E k) (hg:gB≤w.heap.size) :
 Calls prog 22 #[] w fun e w'=>e=.returned (.agg (yEg E).toArray)∧Fr noB w w':=by
 unfold gB at hg
 have e1:w.cell? ⟨7,0,none⟩=some (yAr E 1):=h 1 zO zO
 have l1:7<w.heap.size:=zO
 have e2:w.cell? ⟨8,0,none⟩=some (yAr E 2):=h 2 zO zO
 have l2:8<w.heap.size:=zO
 have e3:w.cell? ⟨9,0,none⟩=some (yAr E 3):=h 3 zO zO
 have l3:9<w.heap.size:=zO
 have e4:w.cell? ⟨10,0,none⟩=some (yAr E 4):=h 4 zO zO
 have l4:10<w.heap.size:=zO
 have e5:w.cell? ⟨11,0,none⟩=some (yAr E 5):=h 5 zO zO
 have l5:11<w.heap.size:=zO
 have e6:w.cell? ⟨5,0,none⟩=some (yAr E 6):=h 6 zO zO
 have l6:5<w.heap.size:=zO
 have e7:w.cell? ⟨0,0,none⟩=some (yAr E 7):=h 7 zO zO
 have l7:0<w.heap.size:=zO
 have e8:w.cell? ⟨12,0,none⟩=some (yAr E 8):=h 8 zO zO
 have l8:12<w.heap.size:=zO
 have e9:w.cell? ⟨13,0,none⟩=some (yAr E 9):=h 9 zO zO
 have l9:13<w.heap.size:=zO
 have e10:w.cell? ⟨14,0,none⟩=some (yAr E 10):=h 10 zO zO
 have l10:14<w.heap.size:=zO
 have e11:w.cell? ⟨15,0,none⟩=some (yAr E 11):=h 11 zO zO
 have l11:15<w.heap.size:=zO
 have e12:w.cell? ⟨2,0,none⟩=some (yAr E 12):=h 12 zO zO
 have l12:2<w.heap.size:=zO
 have e13:w.cell? ⟨1,0,none⟩=some (yAr E 13):=h 13 zO zO
 have l13:1<w.heap.size:=zO
 have e14:w.cell? ⟨16,0,none⟩=some (yAr E 14):=h 14 zO zO
 have l14:16<w.heap.size:=zO
 have e15:w.cell? ⟨17,0,none⟩=some (yAr E 15):=h 15 zO zO
 have l15:17<w.heap.size:=zO
 have e16:w.cell? ⟨18,0,none⟩=some (yAr E 16):=h 16 zO zO
 have l16:18<w.heap.size:=zO
 have e17:w.cell? ⟨4,0,none⟩=some (yAr E 17):=h 17 zO zO
 have l17:4<w.heap.size:=zO
 have e18:w.cell? ⟨6,0,none⟩=some (yAr E 18):=h 18 zO zO
 have l18:6<w.heap.size:=zO
 have e19:w.cell? ⟨19,0,none⟩=some (yAr E 19):=h 19 zO zO
 have l19:19<w.heap.size:=zO
 have e20:w.cell? ⟨20,0,none⟩=some (yAr E 20):=h 20 zO zO
 have l20:20<w.heap.size:=zO
 have e21:w.cell? ⟨3,0,none⟩=some (yAr E 21):=h 21 zO zO
 have l21:3<w.heap.size:=zO
 have e22:w.cell? ⟨21,0,none⟩=some (yAr E 22):=h 22 zO zO
 have l22:21<w.heap.size:=zO
 have e23:w.cell? ⟨22,0,none⟩=some (yAr E 23):=h 23 zO zO
 have l23:22<w.heap.size:=zO
 have e24:w.cell? ⟨23,0,none⟩=some (yAr E 24):=h 24 zO zO
 have l24:23<w.heap.size:=zO
 have e25:w.cell? ⟨24,0,none⟩=some (yAr E 25):=h 25 zO zO
 have l25:24<w.heap.size:=zO
 have e26:w.cell? ⟨25,0,none⟩=some (yAr E 26):=h 26 zO zO
 have l26:25<w.heap.size:=zO
 have e27:w.cell? ⟨26,0,none⟩=some (yAr E 27):=h 27 zO zO
 have l27:26<w.heap.size:=zO
 have e28:w.cell? ⟨27,0,none⟩=some (yAr E 28):=h 28 zO zO
 have l28:27<w.heap.size:=zO
 have e29:w.cell? ⟨28,0,none⟩=some (yAr E 29):=h 29 zO zO
 have l29:28<w.heap.size:=zO
 have e30:w.cell? ⟨29,0,none⟩=some (yAr E 30):=h 30 zO zO
 have l30:29<w.heap.size:=zO
 have e31:w.cell? ⟨30,0,none⟩=some (yAr E 31):=h 31 zO zO
 have l31:30<w.heap.size:=zO
 have e32:w.cell? ⟨31,0,none⟩=some (yAr E 32):=h 32 zO zO
 have l32:31<w.heap.size:=zO
 have e33:w.cell? ⟨32,0,none⟩=some (yAr E 33):=h 33 zO zO
 have l33:32<w.heap.size:=zO
 have e34:w.cell? ⟨33,0,none⟩=some (yAr E 34):=h 34 zO zO
 have l34:33<w.heap.size:=zO
 have e35:w.cell? ⟨34,0,none⟩=some (yAr E 35):=h 35 zO zO
 have l35:34<w.heap.size:=zO
 have e36:w.cell? ⟨35,0,none⟩=some (yAr E 36):=h 36 zO zO
 have l36:35<w.heap.size:=zO
 have e37:w.cell? ⟨36,0,none⟩=some (yAr E 37):=h 37 zO zO
 have l37:36<w.heap.size:=zO
 clear h hg
 go_enter func22,ntmps22
 go_wp2_with (first|((with_reducible refine yBr ?_ 74 (.tmp 0) (.tmp 38) ?_ _ (yEg E).toArray _ ?_ ?_ rfl zK (yNK E) ?_);(rfl);(rfl);(rfl);(rfl))|((with_reducible refine yE9 ?_ 74 [(0,.tmp 1),(1,.tmp 2),(2,.tmp 3),(3,.tmp 4),(4,.tmp 5),(5,.tmp 6),(6,.tmp 7),(7,.tmp 8),(8,.tmp 9),(9,.tmp 10),(10,.tmp 11),(11,.tmp 12),(12,.tmp 13),(13,.tmp 14),(14,.tmp 15),(15,.tmp 16),(16,.tmp 17),(17,.tmp 18),(18,.tmp 19),(19,.tmp 20),(20,.tmp 21),(21,.tmp 22),(22,.tmp 23),(23,.tmp 24),(24,.tmp 25),(25,.tmp 26),(26,.tmp 27),(27,.tmp 28),(28,.tmp 29),(29,.tmp 30),(30,.tmp 31),(31,.tmp 32),(32,.tmp 33),(33,.tmp 34),(34,.tmp 35),(35,.tmp 36),(36,.tmp 37)] ?_ (yEg E).toArray ?_ ?_);(rfl);(rfl);(exact yP8 E)))
 try go_frame
 exact bodyPost_ret (v:=.agg (yEg E).toArray) (results_cell_row (p:=0) (ty:=74) zK _ _ w.heap.size _ _ _ _ rfl (heap_alloc_new w _) underlying74 rfl zK) rfl ⟨rfl,(Fr.refl _ _).alloc _⟩
theorem yDt (E:Nat→Addr) (k:Nat) (hk:1≤k):yAr E k=.iface 281 (.pointer (some (E k))):=by
 unfold yAr;rw [if_neg zO]
theorem yIT (E:Nat→Addr) (j:Nat) (hj:j<37):(yEg E)[j]? = some (.iface 281 (.pointer (some (E (j+1))))):=by
 have e:yEg E=(List.range 37).map (fun i=>yAr E (i+1)):=rfl
 rw [e,zLE,List.getElem?_range hj,Option.map_some,yDt _ _ zO]
theorem yIU (w:World):(isAgg 26).run prog w=.ok false w:=zK
theorem yGM {P:Program} {α:Type} {t:TypeId} {f:TypeInfo→α} {x:α} (h:(P.info? t).map f=some x):∃ i,P.info? t=some i∧f i=x:=by
 cases hq:P.info? t with
 |none=>simp [hq] at h
 |some i=>exact ⟨i,rfl,by simpa [hq] using h⟩
theorem yR2:(prog.info? 281).map (·.comparable)=some true:=zK
theorem yOX:(prog.info? 298).map (·.size)=some 1:=zK
theorem yOY (w:World) (b:Addr):(binOp .eql 26 (.iface 281 (.pointer (some b))) (.iface 281 (.pointer (some b)))).run prog w=.ok (.bool true) w:=by
 obtain ⟨i,hi,hc⟩:=yGM yR2
 obtain ⟨j,hj,_⟩:=yGM yOX
 exact run_eql_iface_ptr_same w _ underlying26 underlying281 hi hc hj
theorem yMj (w:World) (b c:Addr) (hne:b≠c) {ca cb:Array Value} {ta tb:TypeId} (hb:w.heap[b.block]? = some (.cells ca ta (0,0))) (hcc:w.heap[c.block]? = some (.cells cb tb (0,0))) :
 (binOp .eql 26 (.iface 281 (.pointer (some b))) (.iface 281 (.pointer (some c)))).run prog w=.ok (.bool false) w:=by
 obtain ⟨i,hi,hc⟩:=yGM yR2
 obtain ⟨j,hj,hz⟩:=yGM yOX
 exact run_eql_iface_ptr_other w underlying26 underlying281 hi hc hj (by rw [hz];decide) hne hb hcc
theorem yXj (w:World):Calls prog 7 #[.nilIface] w fun e w'=>e=.returned (.int .i64 0)∧w=w':=by
 go_enter func7,ntmps7
 go_wp2
 go_ret
 exact ⟨rfl,rfl⟩
theorem yXk (w:World) (E:Nat→Addr) (hE:ErrsAt w E) (hg:gB≤w.heap.size) (k:Nat) (h1:1≤k) (h2:k≤37) :
 Calls prog 7 #[.iface 281 (.pointer (some (E k)))] w fun e w'=>e=.returned (.int .i64 k)∧Fr noB w w':=by
 have HL:=Lib.hid (yUH w E hE.at_ hg)
 have HE:=Lib.hid hE
 clear hE hg
 go_enter func7,ntmps7
 go_wp2_with (go_at_call 22;refine HL.out.mono ?_;rintro e w1 ⟨rfl,hf⟩;have Hf:=Lib.hid hf;clear hf)
 go_loopw [8] (fun x wr=>∃ j:Nat,j<k∧x=.int .i64 j∧wr=w1) (fun x _=>k-(intOf x).toNat)
 case atStart=>exact ⟨0,zO,rfl,rfl⟩
 case round=>
  obtain ⟨j,hj,rfl,rfl⟩:=hrel
  by_cases hjk:j+1=k
  ·subst hjk
   have he:=yOY wr (E (j+1))
   go_wp2_with (first|((with_reducible refine yEm ?_ 74 26 (.tmp 7) (.tmp 8) ?_ 37 underlying74 (yIU _) zK (yEg E) j ?_ ?_ zO _ (yIT E j zO) ?_);(rfl);(rfl);(rfl);(rfl)))
   go_ret
   exact ⟨rfl,Hf.out⟩
  ·have hne:E k≠E (j+1):=fun e=>hjk (HE.out.inj _ _ zO zO h1 h2 e.symm)
   obtain ⟨ca,ta,ha⟩:=HE.out.obj k h1 h2
   obtain ⟨cb,tb,hb⟩:=HE.out.obj (j+1) zO zO
   have ha1:=(Hf.out.block _ (zLh.1 ha).1 id).trans ha
   have hb1:=(Hf.out.block _ (zLh.1 hb).1 id).trans hb
   have he:=yMj wr (E k) (E (j+1)) hne ha1 hb1
   clear ha hb ha1 hb1 hne
   go_wp2_with (first|((with_reducible refine yEm ?_ 74 26 (.tmp 7) (.tmp 8) ?_ 37 underlying74 (yIU _) zK (yEg E) j ?_ ?_ zO _ (yIT E j zO) ?_);(rfl);(rfl);(rfl);(rfl)))
   go_roundw
   case rel=>exact ⟨j+1,zO,by go_num,by first|rfl|trivial⟩
   case measure=>simp [intOf];omega
theorem yXl (w:World) (E:Nat→Addr) (hE:ErrsAt w E) (hg:gB≤w.heap.size) (k:Nat) (h2:k≤37) :
 Calls prog 7 #[yAr E k] w fun e w'=>e=.returned (.int .i64 k)∧Fr noB w w':=by
 by_cases h:k=0
 ·subst h
  refine (yXj w).mono ?_
  rintro e w' ⟨rfl,rfl⟩
  exact ⟨rfl,Fr.refl _ _⟩
 ·rw [yDt _ _ zO]
  exact yXk w E hE hg k zO h2
def yY2 (fill:UInt8):List UInt8:=(List.range 256).map fun i=>fill+UInt8.ofNat (i / 16)
def xAk (s:List UInt8) (fill:UInt8):List UInt8:=if s=[] then yY2 fill else s
structure POp where
 kind:Int
 i:Int
 s:List UInt8
 fill:UInt8
 kept:List Bool
 torn:Int
 bytes:Int
def POp.cells (o:POp) (kv:Value):List Value:=[.int .i64 o.kind,.int .i64 o.i,.string ⟨o.s.toArray⟩,.int .u8 o.fill.toNat,kv,.int .i64 o.torn,.int .i64 o.bytes]
def POp.sec (o:POp):List UInt8:=xAk o.s o.fill
def xAl (w:World) (b o:Nat) (ops:List POp):Prop:=
 ∀ k op,ops[k]? = some op→∃ kv,w.rangeAt b (o+7*k) (op.cells kv)∧BoolsAt w kv op.kept
def ScriptAt (w:World) (v:Value) (ops:List POp):Prop:=
 ∃ a c,v=.slice a ops.length c∧(ops≠[]→∃ b o,a=some ⟨b,o,none⟩∧b<w.heap.size∧xAl w b o ops)
theorem yKa {w w':World} {b o:Nat} {cs:List Value} (h:w.rangeAt b o cs) (e:w'.heap[b]? = w.heap[b]?):w'.rangeAt b o cs:=by
 intro j v hj
 have:=h j v hj
 unfold World.cell? at this ⊢
 rw [show (⟨b,o+j,none⟩:Addr).block=b from rfl] at this ⊢
 rw [e];exact this
theorem BoolsAt.keepB {w w':World} {kv:Value} {l:List Bool} (h:BoolsAt w kv l) (hs:w.heap.size≤w'.heap.size) (hk:∀ g,g<w.heap.size→w'.heap[g]? = w.heap[g]?):BoolsAt w' kv l:=by
 obtain ⟨a,c,rfl,h1,h2,h3⟩:=h
 refine ⟨a,c,rfl,fun hl=>?_,h2,h3⟩
 obtain ⟨b,o,rfl,hb,hr⟩:=h1 hl
 exact ⟨b,o,rfl,zO,yKa hr (hk b hb)⟩
theorem ScriptAt.keep {w w':World} {v:Value} {ops:List POp} (h:ScriptAt w v ops) (hs:w.heap.size≤w'.heap.size) (hk:∀ g,g<w.heap.size→w'.heap[g]? = w.heap[g]?):ScriptAt w' v ops:=by
 obtain ⟨a,c,rfl,h1⟩:=h
 refine ⟨a,c,rfl,fun hl=>?_⟩
 obtain ⟨b,o,rfl,hb,ho⟩:=h1 hl
 refine ⟨b,o,rfl,zO,fun k op hop=>?_⟩
 obtain ⟨kv,h3,h4⟩:=ho k op hop
 exact ⟨kv,yKa h3 (hk b hb),h4.keepB hs hk⟩
theorem ErrsAt.keepB {w w':World} {E:Nat→Addr} (h:ErrsAt w E) (hs:w.heap.size≤w'.heap.size) (hk:∀ g,g<w.heap.size→w'.heap[g]? = w.heap[g]?):ErrsAt w' E:=by
 have _:=hs
 refine ⟨fun k h1 h2=>?_,fun k h1 h2=>?_,h.inj⟩
 ·have h3:=h.at_ k h1 h2
  unfold ErrAt at h3 ⊢
  have hb:=block_lt_of_cell h3
  rw [World.cell?_of_block (w:=w) (hk _ hb)]
  exact h3
 ·obtain ⟨ca,ta,h3⟩:=h.obj k h1 h2
  exact ⟨ca,ta,(hk _ (zLh.1 h3).1).trans h3⟩
def POp.make (n:Nat) (o:POp) (D:Dsk):Dsk:=
 if o.kind=1 then D.writeD (((o.i % 18446744073709551616).toNat % n:Nat):Int) o.sec
 else if o.kind=2 then D.flushD
 else if o.kind=4 then D.crash o.kept o.torn o.bytes
 else D
theorem DiskAt.move {w w':World} {F:Nat→Prop} {p:Nat} {D:Dsk} (hd:DiskAt w F p D) (h:∀ k,F k→w'.heap[k]? = w.heap[k]?):DiskAt w' F p D:=by
 obtain ⟨pd,pm,uv,hp,hpd,hu,hm,hF,hb,hok⟩:=hd
 refine ⟨pd,pm,uv,hp.keep (h _ hF.1),hpd.keep (h _ hF.2.1),yCe hu (fun g hg=>h _ (hF.2.2.2 g hg)),hm.keep (h _ hF.2.2.1),hF,fun k hk=>⟨(hb k hk).1,?_⟩,hok⟩
 have h1:=h k hk
 have h2:=(hb k hk).2
 rw [Array.getElem?_eq_getElem h2] at h1
 exact (zLh.1 h1).1
def DiskP (p:Nat) (D:Dsk):SP:=⟨10,p,fun h=>∃ w F,DiskAt w F p D∧∀ k,F k→h k=w.heap[k]?⟩
section
variable {P:Program} {W:World}
theorem DiskP.at {w:World} {h:Hl} {p:Nat} {D:Dsk} (hd:(DiskP p D).ok h) (l:Lies W w h):∃ F,DiskAt w F p D∧∀ k,F k→∃ o,h k=some o:=by
 obtain ⟨w0,F,hd,e⟩:=hd
 have hs:∀ k,F k→∃ o,h k=some o∧w0.heap[k]? = some o:=fun k hk=>by
  have:=(hd.bound k hk).2
  exact ⟨_,(e k hk).trans (Array.getElem?_eq_getElem this),Array.getElem?_eq_getElem this⟩
 refine ⟨F,hd.move fun k hk=>?_,fun k hk=>(hs k hk).imp fun o h=>h.1⟩
 obtain ⟨o,h1,h2⟩:=hs k hk
 rw [h2];exact (l k o h1).2
open Classical in
theorem DiskP.of {w:World} {F:Nat→Prop} {p:Nat} {D:Dsk} (hd:DiskAt w F p D):(DiskP p D).ok (fun k=>if F k then w.heap[k]? else none):=⟨w,F,hd,fun k hk=>by simp [hk]⟩
theorem yGl {X:Type} {r:X→Value} {f:FuncId} {args:List Value} {p:Nat} {D:Dsk} {D':X→Dsk} (Hk:List SP)
 (h:∀ w F hk,Below W.heap.size W w→DiskAt w F p D→yAA Hk hk→Lies W w hk→(∀ k o,hk k=some o→¬ F k)→(∀ k,F k→W.heap.size≤k)→Calls P f args.toArray w fun e w'=>∃ x F',e=.returned (r x)∧DiskAt w' F' p (D' x)∧Fr F w w'∧∀ k,F' k→F k∨w.heap.size≤k) :
 Ct P W f args (DiskP p D::Hk) r (fun x=>DiskP p (D' x)::Hk):=by
 refine ⟨fun R w s=>?_⟩
 obtain ⟨h1,h2,dj,hA,hH,l1,l2⟩:=(show St W ([DiskP p D]++(Hk++R)) w from s).split
 obtain ⟨ha,_,_,lea,_,hd,_⟩:=hA
 obtain ⟨F,hd,hF⟩:=DiskP.at hd (l1.mono lea)
 have hF1:∀ k,F k→∃ o,h1 k=some o:=fun k hk=>(hF k hk).imp fun o h=>lea k o h
 obtain ⟨hk,hr,djk,le3,le4,hHk,hHr⟩:=(yAU h2).1 hH
 refine (h w F hk s.below hd hHk (l2.mono le3) (fun k o q hk'=>?_) (fun k hk'=>?_)).mono ?_
 ·obtain ⟨o',h'⟩:=hF1 k hk'
  have:=dj k o' h'
  rw [le3 k o q] at this;cases this
 ·obtain ⟨o',h'⟩:=hF1 k hk'
  exact (l1 k o' h').1
 rintro e w' ⟨x,F',rfl,hd',hf,hF'⟩
 refine ⟨x,rfl,?_⟩
 show St W ([DiskP p (D' x)]++(Hk++R)) w'
 refine St.join s.below dj hH l1 l2 (yBn (DiskP.of hd')) hf.os hf.tape hf.output hf.size ?_ ?_ ?_
 ·intro k o q
  by_cases hk:F' k
  ·simpa [hk] using q
  ·simp [hk] at q
 ·intro k o q
  by_cases hk:F' k
  ·rcases hF' k hk with h|h
   ·exact .inl (hF1 k h)
   ·exact .inr h
  ·simp [hk] at q
 ·intro k hk hn
  refine hf.block k hk (fun h=>?_)
  obtain ⟨o,h'⟩:=hF1 k h
  rw [hn] at h';cases h'
theorem yNL {X:Type} {r:X→Value} {f:FuncId} {args:List Value} (Hk:List SP)
 (h:∀ w hk,Below W.heap.size W w→yAA Hk hk→Lies W w hk→Calls P f args.toArray w fun e w'=>∃ x,e=.returned (r x)∧Fr noB w w') :
 Ct P W f args Hk r (fun _=>Hk):=by
 refine ⟨fun R w s=>?_⟩
 obtain ⟨h1,h2,dj,hA,hH,l1,l2⟩:=s.split
 refine (h w h1 s.below hA l1).mono ?_
 rintro e w' ⟨x,rfl,hf⟩
 refine ⟨x,rfl,?_⟩
 have keep:∀ k,k<w.heap.size→w'.heap[k]? = w.heap[k]?:=fun k hk=>hf.block k hk (by simp [noB])
 exact St.join (g:=h1) s.below dj hH l1 l2 hA hf.os hf.tape hf.output hf.size (fun k o q=>(keep k (l1.lt q)).trans (l1 k o q).2) (fun k o q=>.inl ⟨o,q⟩) (fun k hk _=>keep k hk)
theorem yR3 {X:Type} {r:X→Value} {f:FuncId} {args:List Value} {A:X→SP}
 (h:∀ w,Below W.heap.size W w→Calls P f args.toArray w fun e w'=>∃ x,e=.returned (r x)∧Fr noB w w'∧∃ g:Hl,(A x).ok g∧∀ k o,g k=some o→w.heap.size≤k∧w'.heap[k]? = some o) :
 Ct P W f args [] r (fun x=>[A x]):=by
 refine ⟨fun R w s=>?_⟩
 obtain ⟨h1,h2,dj,hA,hH,l1,l2⟩:=s.split
 refine (h w s.below).mono ?_
 rintro e w' ⟨x,rfl,hf,g,hg,hl⟩
 refine ⟨x,rfl,?_⟩
 have keep:∀ k,k<w.heap.size→w'.heap[k]? = w.heap[k]?:=fun k hk=>hf.block k hk (by simp [noB])
 exact St.join (g:=g) s.below dj hH l1 l2 (yBn hg) hf.os hf.tape hf.output hf.size (fun k o q=>(hl k o q).2) (fun k o q=>.inr (hl k o q).1) (fun k hk _=>keep k hk)
structure ErrsOn (S:List Nat) (w:World) (E:Nat→Addr):Prop where
 at_:∀ k,k ∈ S→ErrAt w E k
 obj:∀ k,k ∈ S→∃ ca ta,w.heap[(E k).block]? = some (.cells ca ta (0,0))
 inj:∀ j k,j ∈ S→k ∈ S→E j=E k→j=k
 pos:∀ k,k ∈ S→1≤k
abbrev L8:List Nat:=[3,6,7,12,14]
theorem ErrsAt.on {w:World} {E:Nat→Addr} (h:ErrsAt w E):ErrsOn L8 w E:=by
 have hS:∀ k ∈ L8,1≤k∧k≤37:=zX
 exact ⟨fun k hk=>h.at_ k (hS k hk).1 (hS k hk).2,fun k hk=>h.obj k (hS k hk).1 (hS k hk).2,fun j k hj hk=>h.inj j k (hS j hj).1 (hS j hj).2 (hS k hk).1 (hS k hk).2,fun k hk=>(hS k hk).1⟩
theorem ErrsAt.all {w:World} {E:Nat→Addr} (h:ErrsAt w E):ErrsOn (List.range' 1 37) w E:=by
 have hS:∀ k ∈ List.range' 1 37,1≤k∧k≤37:=zX
 exact ⟨fun k hk=>h.at_ k (hS k hk).1 (hS k hk).2,fun k hk=>h.obj k (hS k hk).1 (hS k hk).2,fun j k hj hk=>h.inj j k (hS j hj).1 (hS j hj).2 (hS k hk).1 (hS k hk).2,fun k hk=>(hS k hk).1⟩
theorem ErrAt.keepB {w w':World} {E:Nat→Addr} {k:Nat} (h:ErrAt w E k) (hk:∀ g,g<w.heap.size→w'.heap[g]? = w.heap[g]?):ErrAt w' E k:=by
 unfold ErrAt at h ⊢
 have hb:=World.block_lt_of_cell? w _ h
 rw [World.cell?_of_block (w:=w) (hk _ hb)]
 exact h
theorem ErrsOn.later {S:List Nat} {W w:World} {E:Nat→Addr} (h:ErrsOn S W E) (b:Below W.heap.size W w):ErrsOn S w E:=
 ⟨fun k hk=>(h.at_ k hk).keepB b.block,fun k hk=>by
  obtain ⟨ca,ta,q⟩:=h.obj k hk
  exact ⟨ca,ta,(b.block _ (zLh.1 q).1).trans q⟩,h.inj,h.pos⟩
theorem ErrsAt.later {w:World} {E:Nat→Addr} (h:ErrsAt W E) (b:Below W.heap.size W w):ErrsAt w E:=h.keepB b.size b.block
end
section
variable {W:World} {E:Nat→Addr} {p:Nat} {D:Dsk}
theorem yK5 {F:Nat→Prop} {w w':World} (h:w=w'):Fr F w w':=by subst h;exact Fr.refl _ _
theorem yBs:CtU prog W 25 [zPp p] [DiskP p D] (.int .i64 D.n) [DiskP p D]:=
 yGl (D':=fun _=>D) [] fun w F _ _ hd _ _ _ _=>(yUz w F p D hd).mono fun _ _ ⟨he,hw⟩=>⟨(),F,he,hw ▸ hd,yK5 hw,fun _ h=>.inl h⟩
theorem yD5:CtU prog W 26 [zPp p] [DiskP p D] (.bool D.off) [DiskP p D]:=
 yGl (D':=fun _=>D) [] fun w F _ _ hd _ _ _ _=>(yXe w F p D hd).mono fun _ _ ⟨he,hw⟩=>⟨(),F,he,hw ▸ hd,yK5 hw,fun _ h=>.inl h⟩
theorem yK6:CtU prog W 61 [zPp p] [DiskP p D] (.int .i64 D.life) [DiskP p D]:=
 yGl (D':=fun _=>D) [] fun w F _ _ hd _ _ _ _=>(yUA w F p D hd).mono fun _ _ ⟨he,hw⟩=>⟨(),F,he,hw ▸ hd,yK5 hw,fun _ h=>.inl h⟩
theorem yK7 (hE:ErrsOn L8 W E) (i:Int):CtU prog W 57 [zPp p,.int .i64 i] [DiskP p D] (.tuple #[strV (D.readS i),yAr E (D.readE i)]) [DiskP p D]:=
 yGl (D':=fun _=>D) [] fun w F _ b hd _ _ _ _=>(yUD w F p D E hd i ((hE.later b).at_ 12 zX) ((hE.later b).at_ 6 zX)).mono fun e w' ⟨he,hf⟩=>⟨(),F,he,hd.fr hf (fun _ _ q=>q),hf.mono (fun _ q=>q.elim),fun _ h=>.inl h⟩
theorem yK8 (hE:ErrsOn L8 W E) (i:Int) (s:List UInt8) (hul:D.und.length<1073741824):CtU prog W 105 [zPp p,.int .i64 i,strV s] [DiskP p D] (yAr E (D.writeE i s)) [DiskP p (D.writeD i s)]:=
 yGl (D':=fun _=>D.writeD i s) [] fun w F _ b hd _ _ _ _=>(yRU w F p D E hd i s ((hE.later b).at_ 12 zX) ((hE.later b).at_ 6 zX) ((hE.later b).at_ 7 zX) hul).mono fun e w' ⟨he,F',hd',hf,hF⟩=>⟨(),F',he,hd',hf,hF⟩
theorem yK9 (hE:ErrsOn L8 W E) (hul:D.und.length<1073741824):CtU prog W 106 [zPp p] [DiskP p D] (yAr E D.flushE) [DiskP p D.flushD]:=
 yGl (D':=fun _=>D.flushD) [] fun w F _ b hd _ _ _ _=>(yRW w F p D E hd ((hE.later b).at_ 12 zX) hul).mono fun e w' ⟨he,hd',hf⟩=>⟨(),F,he,hd',hf,fun _ h=>.inl h⟩
theorem yUI:CtU prog W 15 [zPp p] [DiskP p D] (strV D.img) [DiskP p D]:=
 yGl (D':=fun _=>D) [] fun w F _ _ hd _ _ _ _=>(yRX w F p D hd).mono fun _ _ ⟨he,hf⟩=>⟨(),F,he,hd.fr hf (fun _ _ q=>q),hf.mono (fun _ q=>q.elim),fun _ h=>.inl h⟩
theorem yGm (hE:ErrsAt W E) (hg:gB≤W.heap.size) (k:Nat) (hk:k≤37):CtU prog W 7 [yAr E k] [] (.int .i64 k) []:=
 yNL [] fun w _ b _ _=>(yXl w E (hE.later b) (Nat.le_trans hg b.size) k hk).mono fun _ _ ⟨he,hf⟩=>⟨(),he,hf⟩
theorem yY3 (n:Nat) (h1:1≤n) (h2:n≤65536) (hg:gB≤W.heap.size):Ct prog W 17 [.int .i64 n] [] (fun p:Nat=>.tuple #[zPp p,.nilIface]) (fun p=>[DiskP p (Dsk.blank n)]):=
 yR3 fun w b=>(yWi w n h1 h2 (Nat.le_trans hg b.size)).mono fun e w' ⟨p,F,he,hd,hf,hF⟩=>⟨p,he,hf,_,DiskP.of hd,fun k o q=>by
  by_cases hk:F k
  ·exact ⟨hF k hk,by simpa [hk] using q⟩
  ·simp [hk] at q⟩
theorem yXm (l:List UInt8) (n:Nat) (hl:l.length=n*256) (h1:1≤n) (h2:n≤65536) (hg:gB≤W.heap.size):Ct prog W 5 [strV l] [] (fun p:Nat=>.tuple #[zPp p,.nilIface]) (fun p=>[DiskP p (Dsk.of l)]):=
 yR3 fun w b=>(yXi w l n hl h1 h2 (Nat.le_trans hg b.size)).mono fun e w' ⟨p,F,he,hd,hf,hF⟩=>⟨p,he,hf,_,DiskP.of hd,fun k o q=>by
  by_cases hk:F k
  ·exact ⟨hF k hk,by simpa [hk] using q⟩
  ·simp [hk] at q⟩
theorem yMk (hE:ErrsOn L8 W E) (l:List UInt8) (hl:l.length % 256≠0) (hlb:l.length≤9223372036854775807):CtU prog W 5 [strV l] [] (.tuple #[.pointer none,yAr E 7]) []:=
 yNL [] fun w _ b _ _=>(yR1 w l E ((hE.later b).at_ 7 zX) hl hlb).mono fun e w' ⟨he,hf⟩=>⟨(),he,hf⟩
theorem yLa (hE:ErrsOn L8 W E) (l:List UInt8) (hl:l.length % 256=0) (hlb:l.length≤9223372036854775807) (h:l.length / 256<1∨65536<l.length / 256):CtU prog W 5 [strV l] [] (.tuple #[.pointer none,yAr E 6]) []:=
 yNL [] fun w _ b _ _=>(yP7 w l E ((hE.later b).at_ 6 zX) hl hlb h).mono fun e w' ⟨he,hf⟩=>⟨(),he,hf⟩
end
end Go.Proofs.YtlnbkbfblhofbaaGreatDoor
