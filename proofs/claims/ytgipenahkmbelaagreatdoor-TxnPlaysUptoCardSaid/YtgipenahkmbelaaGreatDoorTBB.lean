/-
  Disk5, Disk6, Disk7, Disk9, DiskA, Num, Sect, Script, DiskC.
-/
import Derived.Test.YtgipenahkmbelaaGreatDoorTAS
import Derived.Test.YtgipenahkmbelaaGreatDoorTAM
import Derived.Test.YtgipenahkmbelaaGreatDoorTEL
set_option maxHeartbeats 64000000
namespace Go.Proofs.YtgipenahkmbelaaGreatDoor
open Go Go.RowKit
theorem write_off (w:World) (F:Nat→Prop) (p:Nat) (D:Dsk) (E:Nat→Addr) (hd:DiskAt w F p D) (i:Int) (s:List UInt8) (h12:ErrAt w E 12) (ho:D.off=true) :
 Calls Tryz.prog 135 #[.pointer (some ⟨p,0,none⟩),.int .i64 i,.string ⟨s.toArray⟩] w fun e w'=>e=.returned (errV E 12)∧w=w':=by
 obtain ⟨c3,-⟩:=hd.cell
 have e12:w.cell? ⟨3,0,none⟩=some (errV E 12):=h12
 rw [ho] at c3
 clear h12 hd ho
 go_enter Tryz.func135,Tryz.ntmps135
 go_wp2
 all_goals go_ret
 all_goals exact ⟨rfl,rfl⟩
theorem write_out (w:World) (F:Nat→Prop) (p:Nat) (D:Dsk) (E:Nat→Addr) (hd:DiskAt w F p D) (i:Int) (s:List UInt8) (h6:ErrAt w E 6) (ho:D.off=false) (hh:D.has i=false) :
 Calls Tryz.prog 135 #[.pointer (some ⟨p,0,none⟩),.int .i64 i,.string ⟨s.toArray⟩] w fun e w'=>e=.returned (errV E 6)∧w=w':=by
 have Hc:=Lib.hid (has_any w F p D hd i)
 obtain ⟨c3,-⟩:=hd.cell
 have e6:w.cell? ⟨1,0,none⟩=some (errV E 6):=h6
 rw [ho] at c3
 rw [hh] at Hc
 clear h6 hd ho hh
 go_enter Tryz.func135,Tryz.ntmps135
 go_wp2_with (first|(go_at_call 129;refine Hc.out.mono ?_;rintro e w' ⟨rfl,rfl⟩))
 all_goals go_ret
 all_goals exact ⟨rfl,rfl⟩
theorem write_form (w:World) (F:Nat→Prop) (p:Nat) (D:Dsk) (E:Nat→Addr) (hd:DiskAt w F p D) (i:Int) (s:List UInt8) (h7:ErrAt w E 7) (ho:D.off=false) (hh:D.has i=true) (hs:s.length≠256) :
 Calls Tryz.prog 135 #[.pointer (some ⟨p,0,none⟩),.int .i64 i,.string ⟨s.toArray⟩] w fun e w'=>e=.returned (errV E 7)∧w=w':=by
 have Hc:=Lib.hid (has_any w F p D hd i)
 obtain ⟨c3,-⟩:=hd.cell
 have e7:w.cell? ⟨15,0,none⟩=some (errV E 7):=h7
 rw [ho] at c3
 rw [hh] at Hc
 have hs1:((s.length:Int) != 256)=true:=by rw [bne_iff_ne];omega
 clear h7 hd ho hh hs
 go_enter Tryz.func135,Tryz.ntmps135
 go_wp2_with (first|(go_at_call 129;refine Hc.out.mono ?_;rintro e w' ⟨rfl,rfl⟩))
 all_goals go_ret
 all_goals exact ⟨rfl,rfl⟩
theorem write_any (w:World) (F:Nat→Prop) (p:Nat) (D:Dsk) (E:Nat→Addr) (hd:DiskAt w F p D) (i:Int) (s:List UInt8) (h12:ErrAt w E 12) (h6:ErrAt w E 6) (h7:ErrAt w E 7) (hul:D.und.length<1073741824) :
 Calls Tryz.prog 135 #[.pointer (some ⟨p,0,none⟩),.int .i64 i,.string ⟨s.toArray⟩] w fun e w'=>e=.returned (errV E (D.writeE i s))∧∃ F',DiskAt w' F' p (D.writeD i s)∧Fr F w w'∧∀ k,F' k→F k∨w.heap.size≤k:=by
 have same:∀ e w',e=w→w=w'→∀ D',D'=D→∃ F',DiskAt w' F' p D'∧Fr F w w'∧∀ k,F' k→F k∨w.heap.size≤k:=by
  rintro _ w'-rfl _ rfl
  exact ⟨F,hd,Fr.refl _ _,fun k hk=>.inl hk⟩
 by_cases ho:D.off=true
 ·have e1:D.writeE i s=12:=by simp [Dsk.writeE,ho]
  have e2:D.writeD i s=D:=by simp [Dsk.writeD,ho]
  rw [e1,e2]
  refine (write_off w F p D E hd i s h12 ho).mono ?_
  rintro e w' ⟨rfl,h⟩
  exact ⟨rfl,same w w' rfl h _ rfl⟩
 have ho:D.off=false:=by simpa using ho
 by_cases hh:D.has i=true
 ·by_cases hs:s.length=256
  ·have hi:0≤i∧i<D.n:=by simpa [Dsk.has] using hh
   obtain ⟨j,rfl⟩:=Int.eq_ofNat_of_zero_le hi.1
   exact write_ok w F p D E hd j s h12 ho (by omega) hs hul
  ·have e1:D.writeE i s=7:=by simp [Dsk.writeE,ho,hh,hs]
   have e2:D.writeD i s=D:=by simp [Dsk.writeD,ho,hh,hs]
   rw [e1,e2]
   refine (write_form w F p D E hd i s h7 ho hh hs).mono ?_
   rintro e w' ⟨rfl,h⟩
   exact ⟨rfl,same w w' rfl h _ rfl⟩
 ·have hh:D.has i=false:=by simpa using hh
  have e1:D.writeE i s=6:=by simp [Dsk.writeE,ho,hh]
  have e2:D.writeD i s=D:=by simp [Dsk.writeD,ho,hh]
  rw [e1,e2]
  refine (write_out w F p D E hd i s h6 ho hh).mono ?_
  rintro e w' ⟨rfl,h⟩
  exact ⟨rfl,same w w' rfl h _ rfl⟩
end Go.Proofs.YtgipenahkmbelaaGreatDoor
namespace Go.Proofs.YtgipenahkmbelaaGreatDoor
open Go Go.RowKit
structure Flushing (w:World) (F:Nat→Prop) (p pd pm:Nat) (uv:Value) (D:Dsk) (img:List UInt8) (wr:World):Prop where
 hp:Blk wr p [.slice (some ⟨pd,0,none⟩) D.n D.n,uv,.map (some pm),.bool D.off,.int .i64 D.armed,.int .i64 D.writes,.int .i64 D.flushes,.int .i64 D.life] 138
 hpd:Blk wr pd (bvs img) 189
 hu:wr.ownsRow 0 192 257 uv D.und.length (undCells D.und)
 hm:LastAt wr pm D.und
 fr:Fr F w wr
theorem bvs_lay (img b:List UInt8) (o:Nat):lay (bvs img) o (bvs b)=bvs (lay img o b):=by simp [lay,bvs,List.map_take,List.map_drop]
theorem Flushing.next {w wr:World} {F:Nat→Prop} {p pd pm:Nat} {uv:Value} {D:Dsk} {img:List UInt8} (h:Flushing w F p pd pm uv D img wr) (hF:F pd) (O:Obj) (j:Nat) (b:List UInt8) :
 Flushing w F p pd pm uv D (lay img j b) ((wr.alloc O).drew.setRow pd (bvs (lay img j b)).toArray):=by
 obtain ⟨hp,hpd,hu,hm,fr⟩:=h
 have n1:p≠pd:=hp.ne hpd (by decide)
 have n3:pm≠pd:=by obtain ⟨_,⟨_,_,h,_⟩,_⟩:=hm;exact hpd.ne_map h
 have k:∀ i,i<wr.heap.size→i≠pd→((wr.alloc O).drew.setRow pd (bvs (lay img j b)).toArray).heap[i]? = wr.heap[i]?:=fun i h1 h2=>
  (setRow_other _ _ _ _ h2).trans (Below.heap_alloc _ _ _ h1)
 have hpd':Blk (wr.alloc O).drew pd (bvs img) 189:=hpd.keep (Below.heap_alloc _ _ _ hpd.lt)
 exact ⟨hp.keep (k p hp.lt n1),hpd'.row _,ownsRow_keep hu (fun g hg=>k g (hu.lt g hg).2 (hpd.ne_row hu hg (by decide))),hm.keep (k pm hm.lt n3),((fr.alloc _).drew).setRow (.inl hF) _⟩
theorem all_way (x:Nat × List UInt8):(zBr x).toArray.all (·.oneCell')=true:=by
 rw [Array.all_eq_true_iff_forall_mem]
 intro v hv
 exact wayCells_one x v (by simpa using hv)
set_option maxRecDepth 100000 in
theorem flush_ok (w:World) (F:Nat→Prop) (p:Nat) (D:Dsk) (hd:DiskAt w F p D) (hoff:D.off=false) (hdead:D.dead=false) (hul:D.und.length<1073741824) :
 Calls Tryz.prog 136 #[.pointer (some ⟨p,0,none⟩)] w fun e w'=>e=.returned .nilIface∧DiskAt w' F p D.flushD∧Fr F w w':=by
 have HG:=Lib.hid (goes_any w F p D hd)
 obtain ⟨c3,-⟩:=hd.cell
 rw [hoff] at c3
 rw [hdead] at HG
 have HR:Hid (D.flushD={ D.gone with img:=layAll D.img D.und,und:=[],flushes:=w64 (D.flushes+1) }):=by
  show _=_
  simp [Dsk.flushD,hoff,hdead]
 clear hd hoff hdead
 go_enter Tryz.func136,Tryz.ntmps136
 go_upto_region 3 with (go_at_call 177;refine HG.out.mono ?_;rintro e w1 ⟨rfl,hd1⟩;have Hd1:=Lib.hid hd1;clear hd1)
 obtain ⟨hd1,hf1⟩:=Hd1
 obtain ⟨pd,pm,uv,hp,hpd,hu,hm,hF,hb,hok⟩:=hd1
 obtain ⟨ua,uc,rfl⟩:=own_shape hu
 have c1:w1.cell? ⟨p,1,none⟩=some (.slice ua D.gone.und.length uc):=by rw [hp.cell];rfl
 have hul':D.gone.und.length<1073741824:=by rw [Dsk.gone_und];exact hul
 have HI:=Lib.hid (And.intro hF (And.intro hb hok))
 have HI0:=Lib.hid (Flushing.mk (w:=w1) (F:=F) (img:=D.gone.img) hp hpd hu hm (Fr.refl F w1))
 have Hf1:=Lib.hid hf1
 clear hp hpd hu hm hF hb hok hf1 c3
 go_wp2_with (fail)
 go_loopw [19] (fun x wr=>∃ k:Nat,k≤D.gone.und.length∧x=.int .i64 k∧Hid (Flushing w1 F p pd pm (.slice ua D.gone.und.length uc) D.gone (layAll D.gone.img (D.gone.und.take k)) wr)) (fun x _=>D.gone.und.length-(intOf x).toNat)
 case atStart=>exact ⟨0,Nat.zero_le _,rfl,by rw [List.take_zero];exact HI0.out⟩
 case round=>
  obtain ⟨k,hk,rfl,HK⟩:=hrel
  have hokg:=HI.out.2.2
  have b2:=hokg.n2
  by_cases hlt:k<D.gone.und.length
  ·obtain ⟨j,b,hkj⟩:∃ j b,D.gone.und[k]? = some (j,b):=⟨(D.gone.und[k]).1,(D.gone.und[k]).2,by rw [List.getElem?_eq_getElem hlt]⟩
   have hjb:=hokg.und _ (List.mem_of_getElem? hkj)
   have hj:j<D.gone.n:=hjb.1
   have Hbl:Hid (b.length=256):=hjb.2
   obtain ⟨g,cap,hv,hc1,hc2,hgl,hg⟩:=under_at HK.out.hu hokg.und k j b hkj
   cases hv
   unfold maxLen at hc2
   have c0:wr.cell? ⟨p,0,none⟩=some (.slice (some ⟨pd,0,none⟩) D.gone.n D.gone.n):=by rw [HK.out.hp.cell];rfl
   have lpr:=HK.out.hp.lt
   have Hg:=Lib.hid hg
   have Hkj:=Lib.hid hkj
   clear hokg hjb hg hkj
   have HS:Hid ((wr.alloc (.cells (zBr (j,b)).toArray 192)).drew.cell? ⟨p,0,none⟩=some (.slice (some ⟨pd,0,none⟩) D.gone.n D.gone.n)∧(wr.alloc (.cells (zBr (j,b)).toArray 192)).drew.cell? ⟨wr.heap.size,0,none⟩=some (.int .i64 j)∧(wr.alloc (.cells (zBr (j,b)).toArray 192)).drew.rangeAt wr.heap.size 1 (bvs b)):=by
    have hrn:=range_new wr (zBr (j,b)) 192
    refine ⟨(World.cell?_of_block (w:=wr) (Below.heap_alloc _ _ _ lpr)).trans c0,hrn 0 _ rfl,fun z v hz=>?_⟩
    have:=hrn (z+1) v (by simpa [zBr] using hz)
    rw [show 1+z=0+(z+1) by omega];exact this
   have HB2:Hid (Blk (wr.alloc (.cells (zBr (j,b)).toArray 192)).drew pd (bvs (layAll D.gone.img (D.gone.und.take k))) 189):=HK.out.hpd.keep (Below.heap_alloc _ _ _ HK.out.hpd.lt)
   have Hlen:Hid ((layAll D.gone.img (D.gone.und.take k)).length=256*D.gone.n):=layAll_length _ _ _ HI.out.2.2.len (fun x hx=>HI.out.2.2.und x (List.mem_of_mem_take hx))
   go_upto_region 6 with (first|((with_reducible refine wpList_load_mid ?_ 192 (.tmp 21) ?_ g (k*257) ?_ (zBr (j,b)) _ Hg.out Tryz.underlying192 rfl (by rw [info_write,wayCells_len _ _ Hbl.out]) ?_);(rfl);(rfl);(rfl))|((with_reducible refine wpList_store_top ?_ 192 (.tmp 4) (.tmp 22) ?_ _ (zBr (j,b)).toArray _ ?_ ?_ (by rw [Tryz.zeroCells192_size,List.size_toArray,wayCells_len _ _ Hbl.out]) (by rw [info_write,List.size_toArray,wayCells_len _ _ Hbl.out]) (all_way _) ?_);(rfl);(rfl);(rfl);(rfl)))
   go_frame
   refine wp_region_reads 9 9 (fun w'=>w'.cell? ⟨p,0,none⟩=some (.slice (some ⟨pd,0,none⟩) D.gone.n D.gone.n)∧w'.cell? ⟨wr.heap.size,0,none⟩=some (.int .i64 j)∧w'.rangeAt wr.heap.size 1 (bvs b)) (by kernel_rfl) ?hBB ?hQQ ?hSS ?hMM
   case hBB=>kernel_rfl
   case hQQ=>intro c a d v w h;cases d <;> exact h
   case hSS=>exact HS.out
   simp only [List.take_succ_cons,List.take_zero,List.drop_succ_cons,List.drop_zero,Nat.reduceSub]
   refine readsT_move rfl _ rfl (.pointer (some ⟨p,0,none⟩)) rfl ?_
   go_frame
   refine readsT_pure rfl rfl (.pointer (some ⟨p,0,none⟩)) (fun w'=>by go_simp) ?_
   go_frame
   refine readsT_pure rfl rfl (.pointer (some ⟨p,0,none⟩)) (fun w'=>by go_simp) ?_
   go_frame
   refine readsT_load rfl rfl (.slice (some ⟨pd,0,none⟩) D.gone.n D.gone.n) (fun w' hS=>by have hS1:=hS.1;clear hS;go_simp) ?_
   go_frame
   refine readsT_pure rfl rfl (.pointer (some ⟨wr.heap.size,0,none⟩)) (fun w'=>by go_simp) ?_
   go_frame
   refine readsT_load rfl rfl (.int .i64 j) (fun w' hS=>by have hS1:=hS.2.1;clear hS;go_simp) ?_
   go_frame
   refine readsT_pure rfl rfl (.pointer (some ⟨wr.heap.size,1,none⟩)) (fun w'=>by go_simp) ?_
   go_frame
   refine readsT_load_mid rfl 189 (.tmp 29) rfl wr.heap.size 1 rfl (bvs b) _ (fun w' hS=>hS.2.2) Tryz.underlying189 rfl (by rw [info_block,bvs_length,Hbl.out]) ?_
   go_frame
   refine readsT_pure rfl rfl (.pointer (some ⟨pd,j*256,none⟩)) (fun w'=>by go_simp) ?_
   go_frame
   unfold readsT earlyT
   (with_reducible refine wpList_store_lay ?_ 189 (.tmp 31) (.tmp 30) ?_ pd (j*256) _ (bvs b) 189 ?_ ?_ HB2.out (by rw [bvs_length,bvs_length,Hlen.out,Hbl.out];omega) (by rw [info_block,bvs_length,Hbl.out]) (bvs_one _) ?_);rfl;rfl;rfl;rfl
   go_wp2
   go_roundw
   case rel=>
    refine ⟨k+1,by omega,by go_num,?_⟩
    have:=HK.out.next HI.out.1.2.1 (.cells (zBr (j,b)).toArray 192) (j*256) b
    rw [layAll_take _ _ _ _ _ Hkj.out,bvs_lay]
    exact this
   case measure=>simp [intOf];omega
  ·have hkk:k=D.gone.und.length:=by omega
   obtain ⟨Df,hDf⟩:∃ Df:Dsk,Df={ D.gone with img:=layAll D.gone.img D.gone.und }:=⟨_,rfl⟩
   have hlen:(layAll D.gone.img D.gone.und).length=256*D.gone.n:=layAll_length _ _ _ hokg.len hokg.und
   have hdr:DiskAt wr F p Df:=by
    have hk2:=HK.out
    rw [hkk,List.take_length] at hk2
    rw [hDf]
    exact ⟨pd,pm,_,hk2.hp,hk2.hpd,hk2.hu,hk2.hm,HI.out.1,fun i hi=>⟨(HI.out.2.1 i hi).1,Nat.lt_of_lt_of_le (HI.out.2.1 i hi).2 hk2.fr.size⟩,⟨hokg.n1,hokg.n2,hlen,hokg.und,hokg.arm1,hokg.arm2⟩⟩
   have HSt:=Lib.hid (settled_any wr F p Df hdr)
   have HDf:Hid (D.flushD={ Df.clr with flushes:=w64 (Df.clr.flushes+1) }):=by
    show _=_
    rw [HR.out,hDf]
    simp only [Dsk.clr,Dsk.gone_und,Dsk.gone_img,Dsk.gone_flushes]
   have HFr:Hid (Fr F w wr):=Hf1.out.trans' HK.out.fr
   clear hokg hkk hDf hlen hdr HK
   go_upto_region 10 with (go_at_call 178;refine HSt.out.mono ?_;rintro e w2 ⟨rfl,hd2⟩;have c6:=hd2.1.cell.2.2.2.1;have f6:=hd2.1.cell.2.2.2.2.2 6;have Hd2:=Lib.hid hd2;clear hd2)
   go_wp2
   go_ret
   refine ⟨rfl,?_,(HFr.out.trans' Hd2.out.2).setCell (.inl HI.out.1.1) _⟩
   rw [HDf.out]
   refine Hd2.out.1.store 6 _ _ rfl rfl rfl (fun a u m=>rfl) ?_
   have:=Hd2.out.1.good;exact ⟨this.n1,this.n2,this.len,this.und,this.arm1,this.arm2⟩
theorem flush_dead (w:World) (F:Nat→Prop) (p:Nat) (D:Dsk) (E:Nat→Addr) (hd:DiskAt w F p D) (h12:ErrAt w E 12) (hoff:D.off=false) (hdead:D.dead=true) :
 Calls Tryz.prog 136 #[.pointer (some ⟨p,0,none⟩)] w fun e w'=>e=.returned (errV E 12)∧DiskAt w' F p D.gone∧Fr F w w':=by
 have HG:=Lib.hid (goes_any w F p D hd)
 have HB:=Lib.hid hd.bound
 obtain ⟨c3,-⟩:=hd.cell
 rw [hoff] at c3
 rw [hdead] at HG
 have H12:=Lib.hid h12
 clear hd hoff hdead h12
 go_enter Tryz.func136,Tryz.ntmps136
 go_upto_region 2 with (go_at_call 177;refine HG.out.mono ?_;rintro e w1 ⟨rfl,hd1⟩;have e12:w1.cell? ⟨3,0,none⟩=some (errV E 12):=H12.out.keep hd1.2 (fun k hk=>(HB.out k hk).1) (by decide);have Hd1:=Lib.hid hd1;clear hd1)
 go_wp2
 go_ret
 exact ⟨rfl,Hd1.out⟩
theorem flush_off (w:World) (F:Nat→Prop) (p:Nat) (D:Dsk) (E:Nat→Addr) (hd:DiskAt w F p D) (h12:ErrAt w E 12) (hoff:D.off=true) :
 Calls Tryz.prog 136 #[.pointer (some ⟨p,0,none⟩)] w fun e w'=>e=.returned (errV E 12)∧w=w':=by
 obtain ⟨c3,-⟩:=hd.cell
 rw [hoff] at c3
 have e12:w.cell? ⟨3,0,none⟩=some (errV E 12):=h12
 clear hd hoff h12
 go_enter Tryz.func136,Tryz.ntmps136
 go_wp2
 all_goals go_ret
 all_goals exact ⟨rfl,rfl⟩
theorem flush_any (w:World) (F:Nat→Prop) (p:Nat) (D:Dsk) (E:Nat→Addr) (hd:DiskAt w F p D) (h12:ErrAt w E 12) (hul:D.und.length<1073741824) :
 Calls Tryz.prog 136 #[.pointer (some ⟨p,0,none⟩)] w fun e w'=>e=.returned (errV E D.flushE)∧DiskAt w' F p D.flushD∧Fr F w w':=by
 cases hoff:D.off
 ·cases hdead:D.dead
  ·have e1:D.flushE=0:=by simp [Dsk.flushE,hoff,hdead]
   rw [e1]
   exact flush_ok w F p D hd hoff hdead hul
  ·have e1:D.flushE=12:=by simp [Dsk.flushE,hoff,hdead]
   have e2:D.flushD=D.gone:=by simp [Dsk.flushD,hoff,hdead]
   rw [e1,e2]
   exact flush_dead w F p D E hd h12 hoff hdead
 ·have e1:D.flushE=12:=by simp [Dsk.flushE,hoff]
  have e2:D.flushD=D:=by simp [Dsk.flushD,hoff]
  rw [e1,e2]
  refine (flush_off w F p D E hd h12 hoff).mono ?_
  rintro e w' ⟨rfl,rfl⟩
  exact ⟨rfl,hd,Fr.refl _ _⟩
end Go.Proofs.YtgipenahkmbelaaGreatDoor
namespace Go.Proofs.YtgipenahkmbelaaGreatDoor
open Go Go.RowKit
def BoolsAt (w:World) (v:Value) (l:List Bool):Prop:=∃ a c,v=.slice a l.length c∧(l≠[]→∃ b o,a=some ⟨b,o,none⟩∧b<w.heap.size∧w.rangeAt b o (l.map .bool))∧(a=none→c=0)∧l.length≤c∧c≤maxLen
theorem Flushing.skip {w wr:World} {F:Nat→Prop} {p pd pm:Nat} {uv:Value} {D:Dsk} {img:List UInt8} (h:Flushing w F p pd pm uv D img wr) (O:Obj):Flushing w F p pd pm uv D img (wr.alloc O):=by
 obtain ⟨hp,hpd,hu,hm,fr⟩:=h
 exact ⟨hp.keep (Below.heap_alloc _ _ _ hp.lt),hpd.keep (Below.heap_alloc _ _ _ hpd.lt),hu.alloc _,hm.keep (Below.heap_alloc _ _ _ hm.lt),fr.alloc _⟩
end Go.Proofs.YtgipenahkmbelaaGreatDoor
namespace Go.Proofs.YtgipenahkmbelaaGreatDoor
open Go Go.RowKit
theorem made_zeros (m n:Nat) (hm:0<m):(madeCells (bvs (zs m)).toArray n).toList=bvs (zs n):=by
 have e:bvs (zs n)=List.replicate n (bv 0):=by simp [bvs,zs]
 rw [e,List.eq_replicate_iff]
 refine ⟨by simp [madeCells],fun b hb=>?_⟩
 simp only [madeCells,Array.toList_map,Array.toList_range,List.mem_map,List.mem_range,List.size_toArray,bvs_length,zs_length] at hb
 obtain ⟨i,_,rfl⟩:=hb
 have hlt:i % m<m:=Nat.mod_lt _ hm
 have h2:(bvs (zs m))[i % m]? = some (bv 0):=by simp [bvs,zs,hlt]
 simp [Array.getElem!_eq_getD,Array.getD_eq_getD_getElem?,h2]
theorem info_block3:(Tryz.prog.info? 189).map (fun i=>(i.zero.map (·.cells),i.size,i.bytes))=some (some (bvs (zs 256)).toArray,256,256):=by kernel_rfl
set_option maxRecDepth 100000 in
theorem blank_any (w:World) (n:Nat) (h1:1≤n) (h2:n≤65536) (hg:gB≤w.heap.size) :
 Calls Tryz.prog 58 #[.int .i64 n] w fun e w'=>∃ p F,e=.returned (.pointer (some ⟨p,0,none⟩))∧DiskAt w' F p (Dsk.blank n)∧Fr noB w w'∧∀ k,F k→w.heap.size≤k:=by
 have hmm:=@run_makeMap Tryz.prog
 have Hg:=Lib.hid hg
 clear hg
 go_enter Tryz.func58,Tryz.ntmps58
 go_wp2_with (first|((with_reducible refine wpList_make_zero ?_ (.tmp 3) (.tmp 3) 134 189 ?_ Tryz.underlying134 256 256 (bvs (zs 256)).toArray info_block3 (n:Int) n ?_ ?_ rfl (by omega) (by unfold maxLen;omega) ?_);(rfl);(rfl);(rfl);(rfl);(intro w1 hw1)))
 go_ret
 obtain ⟨hb,hgr⟩:=hw1
 rw [made_zeros 256 _ (by omega)] at hb
 have sz:w.heap.size<w1.heap.size:=hb.lt
 refine ⟨w1.heap.size+1,fun k=>w.heap.size≤k∧k<w1.heap.size+2,rfl,⟨w.heap.size,w1.heap.size,.slice none 0 0,?_,?_,World.ownsRow_nil _ _ _ _,?_,⟨⟨by omega,by omega⟩,⟨by omega,by omega⟩,⟨by omega,by omega⟩,fun g hg=>by simp [Value.ownBlock] at hg⟩,fun k hk=>⟨by have:=Hg.out;omega,by simp;omega⟩,Dsk.blank_ok n h1 h2⟩,?_,fun k hk=>hk.1⟩
 ·have:=heap_alloc_new (w1.alloc (.map #[] 0)) (.cells #[.slice (some ⟨w.heap.size,0,none⟩) n n,.slice none 0 0,.map (some w1.heap.size),.bool false,.int .i64 (-1),.int .i64 0,.int .i64 0,.int .i64 0] 138)
  simpa [Blk,Dsk.blank] using this
 ·have e:Blk w1 w.heap.size (bvs (Dsk.blank n).img) 189:=by
   show Blk w1 w.heap.size (bvs (zs (256*n))) _
   rw [Nat.mul_comm];exact hb
  exact e.keep ((Below.heap_alloc _ _ _ (by simp;omega)).trans (Below.heap_alloc _ _ _ sz))
 ·refine ⟨.map [],((World.ownsMap_made w1 _ _ _).alloc _).mono (Nat.zero_le _),fun i=>⟨rfl,rfl⟩⟩
 ·exact (((Fr.refl noB w).grown hgr (fun k hk=>by cases hk)).alloc _).alloc _
theorem new_ok (w:World) (n:Nat) (h1:1≤n) (h2:n≤65536) (hg:gB≤w.heap.size) :
 Calls Tryz.prog 33 #[.int .i64 n] w fun e w'=>∃ p F,e=.returned (.tuple #[.pointer (some ⟨p,0,none⟩),.nilIface])∧DiskAt w' F p (Dsk.blank n)∧Fr noB w w'∧∀ k,F k→w.heap.size≤k:=by
 have HB:=Lib.hid (blank_any w n h1 h2 hg)
 clear hg
 go_enter Tryz.func33,Tryz.ntmps33
 go_wp2_with (go_at_call 58;refine HB.out.mono ?_;rintro e w1 ⟨p,F,rfl,hq⟩;have Hq:=Lib.hid hq;clear hq)
 all_goals go_ret2
 all_goals exact ⟨p,F,rfl,Hq.out⟩
end Go.Proofs.YtgipenahkmbelaaGreatDoor
namespace Go.Proofs.YtgipenahkmbelaaGreatDoor
open Go Go.RowKit
theorem Flushing.laid {w wr:World} {F:Nat→Prop} {p pd pm:Nat} {uv:Value} {D:Dsk} {img img':List UInt8} (h:Flushing w F p pd pm uv D img wr) (hF:F pd) :
 Flushing w F p pd pm uv D img' (wr.drew.setRow pd (bvs img').toArray):=by
 obtain ⟨hp,hpd,hu,hm,fr⟩:=h
 have n1:p≠pd:=hp.ne hpd (by decide)
 have n3:pm≠pd:=by obtain ⟨_,⟨_,_,h,_⟩,_⟩:=hm;exact hpd.ne_map h
 have k:∀ i,i≠pd→(wr.drew.setRow pd (bvs img').toArray).heap[i]? = wr.heap[i]?:=fun i h2=>setRow_other _ _ _ _ h2
 have hpd':Blk wr.drew pd (bvs img) 189:=hpd
 exact ⟨hp.keep (k p n1),hpd'.row _,ownsRow_keep hu (fun g hg=>k g (hpd.ne_row hu hg (by decide))),hm.keep (k pm n3),(fr.drew).setRow (.inl hF) _⟩
def part (l:List UInt8) (n k:Nat):List UInt8:=l.take (k*256)++zs (n*256-k*256)
end Go.Proofs.YtgipenahkmbelaaGreatDoor
namespace Go.Proofs.YtgipenahkmbelaaGreatDoor
open Go Go.RowKit
structure ErrsAt (w:World) (E:Nat→Addr):Prop where
 at_:∀ k,1≤k→k≤37→ErrAt w E k
 obj:∀ k,1≤k→k≤37→∃ ca ta,w.heap[(E k).block]? = some (.cells ca ta (0,0))
 inj:∀ j k,1≤j→j≤37→1≤k→k≤37→E j=E k→j=k
def errList (E:Nat→Addr):List Value:=[errV E 1,errV E 2,errV E 3,errV E 4,errV E 5,errV E 6,errV E 7,errV E 8,errV E 9,errV E 10,errV E 11,errV E 12,errV E 13,errV E 14,errV E 15,errV E 16,errV E 17,errV E 18,errV E 19,errV E 20,errV E 21,errV E 22,errV E 23,errV E 24,errV E 25,errV E 26,errV E 27,errV E 28,errV E 29,errV E 30,errV E 31,errV E 32,errV E 33,errV E 34,errV E 35,errV E 36,errV E 37]
theorem built_list (E:Nat→Addr):Tryz.prog.built 131 [(0,errV E 1),(1,errV E 2),(2,errV E 3),(3,errV E 4),(4,errV E 5),(5,errV E 6),(6,errV E 7),(7,errV E 8),(8,errV E 9),(9,errV E 10),(10,errV E 11),(11,errV E 12),(12,errV E 13),(13,errV E 14),(14,errV E 15),(15,errV E 16),(16,errV E 17),(17,errV E 18),(18,errV E 19),(19,errV E 20),(20,errV E 21),(21,errV E 22),(22,errV E 23),(23,errV E 24),(24,errV E 25),(25,errV E 26),(26,errV E 27),(27,errV E 28),(28,errV E 29),(29,errV E 30),(30,errV E 31),(31,errV E 32),(32,errV E 33),(33,errV E 34),(34,errV E 35),(35,errV E 36),(36,errV E 37)]=some (errList E).toArray:=by kernel_rfl
theorem errList_one (E:Nat→Addr):(errList E).toArray.all (·.oneCell')=true:=by kernel_rfl
set_option maxRecDepth 100000 in
theorem list_any (w:World) (E:Nat→Addr) (h:∀ k,1≤k→k≤37→ErrAt w E k) (hg:gB≤w.heap.size) :
 Calls Tryz.prog 85 #[] w fun e w'=>e=.returned (.agg (errList E).toArray)∧Fr noB w w':=by
 unfold gB at hg
 have e1:w.cell? ⟨10,0,none⟩=some (errV E 1):=h 1 (by omega) (by omega)
 have l1:10<w.heap.size:=by omega
 have e2:w.cell? ⟨11,0,none⟩=some (errV E 2):=h 2 (by omega) (by omega)
 have l2:11<w.heap.size:=by omega
 have e3:w.cell? ⟨12,0,none⟩=some (errV E 3):=h 3 (by omega) (by omega)
 have l3:12<w.heap.size:=by omega
 have e4:w.cell? ⟨13,0,none⟩=some (errV E 4):=h 4 (by omega) (by omega)
 have l4:13<w.heap.size:=by omega
 have e5:w.cell? ⟨14,0,none⟩=some (errV E 5):=h 5 (by omega) (by omega)
 have l5:14<w.heap.size:=by omega
 have e6:w.cell? ⟨1,0,none⟩=some (errV E 6):=h 6 (by omega) (by omega)
 have l6:1<w.heap.size:=by omega
 have e7:w.cell? ⟨15,0,none⟩=some (errV E 7):=h 7 (by omega) (by omega)
 have l7:15<w.heap.size:=by omega
 have e8:w.cell? ⟨16,0,none⟩=some (errV E 8):=h 8 (by omega) (by omega)
 have l8:16<w.heap.size:=by omega
 have e9:w.cell? ⟨17,0,none⟩=some (errV E 9):=h 9 (by omega) (by omega)
 have l9:17<w.heap.size:=by omega
 have e10:w.cell? ⟨18,0,none⟩=some (errV E 10):=h 10 (by omega) (by omega)
 have l10:18<w.heap.size:=by omega
 have e11:w.cell? ⟨19,0,none⟩=some (errV E 11):=h 11 (by omega) (by omega)
 have l11:19<w.heap.size:=by omega
 have e12:w.cell? ⟨3,0,none⟩=some (errV E 12):=h 12 (by omega) (by omega)
 have l12:3<w.heap.size:=by omega
 have e13:w.cell? ⟨2,0,none⟩=some (errV E 13):=h 13 (by omega) (by omega)
 have l13:2<w.heap.size:=by omega
 have e14:w.cell? ⟨6,0,none⟩=some (errV E 14):=h 14 (by omega) (by omega)
 have l14:6<w.heap.size:=by omega
 have e15:w.cell? ⟨8,0,none⟩=some (errV E 15):=h 15 (by omega) (by omega)
 have l15:8<w.heap.size:=by omega
 have e16:w.cell? ⟨7,0,none⟩=some (errV E 16):=h 16 (by omega) (by omega)
 have l16:7<w.heap.size:=by omega
 have e17:w.cell? ⟨5,0,none⟩=some (errV E 17):=h 17 (by omega) (by omega)
 have l17:5<w.heap.size:=by omega
 have e18:w.cell? ⟨9,0,none⟩=some (errV E 18):=h 18 (by omega) (by omega)
 have l18:9<w.heap.size:=by omega
 have e19:w.cell? ⟨0,0,none⟩=some (errV E 19):=h 19 (by omega) (by omega)
 have l19:0<w.heap.size:=by omega
 have e20:w.cell? ⟨20,0,none⟩=some (errV E 20):=h 20 (by omega) (by omega)
 have l20:20<w.heap.size:=by omega
 have e21:w.cell? ⟨4,0,none⟩=some (errV E 21):=h 21 (by omega) (by omega)
 have l21:4<w.heap.size:=by omega
 have e22:w.cell? ⟨21,0,none⟩=some (errV E 22):=h 22 (by omega) (by omega)
 have l22:21<w.heap.size:=by omega
 have e23:w.cell? ⟨22,0,none⟩=some (errV E 23):=h 23 (by omega) (by omega)
 have l23:22<w.heap.size:=by omega
 have e24:w.cell? ⟨23,0,none⟩=some (errV E 24):=h 24 (by omega) (by omega)
 have l24:23<w.heap.size:=by omega
 have e25:w.cell? ⟨24,0,none⟩=some (errV E 25):=h 25 (by omega) (by omega)
 have l25:24<w.heap.size:=by omega
 have e26:w.cell? ⟨25,0,none⟩=some (errV E 26):=h 26 (by omega) (by omega)
 have l26:25<w.heap.size:=by omega
 have e27:w.cell? ⟨26,0,none⟩=some (errV E 27):=h 27 (by omega) (by omega)
 have l27:26<w.heap.size:=by omega
 have e28:w.cell? ⟨27,0,none⟩=some (errV E 28):=h 28 (by omega) (by omega)
 have l28:27<w.heap.size:=by omega
 have e29:w.cell? ⟨28,0,none⟩=some (errV E 29):=h 29 (by omega) (by omega)
 have l29:28<w.heap.size:=by omega
 have e30:w.cell? ⟨29,0,none⟩=some (errV E 30):=h 30 (by omega) (by omega)
 have l30:29<w.heap.size:=by omega
 have e31:w.cell? ⟨30,0,none⟩=some (errV E 31):=h 31 (by omega) (by omega)
 have l31:30<w.heap.size:=by omega
 have e32:w.cell? ⟨31,0,none⟩=some (errV E 32):=h 32 (by omega) (by omega)
 have l32:31<w.heap.size:=by omega
 have e33:w.cell? ⟨32,0,none⟩=some (errV E 33):=h 33 (by omega) (by omega)
 have l33:32<w.heap.size:=by omega
 have e34:w.cell? ⟨33,0,none⟩=some (errV E 34):=h 34 (by omega) (by omega)
 have l34:33<w.heap.size:=by omega
 have e35:w.cell? ⟨34,0,none⟩=some (errV E 35):=h 35 (by omega) (by omega)
 have l35:34<w.heap.size:=by omega
 have e36:w.cell? ⟨35,0,none⟩=some (errV E 36):=h 36 (by omega) (by omega)
 have l36:35<w.heap.size:=by omega
 have e37:w.cell? ⟨36,0,none⟩=some (errV E 37):=h 37 (by omega) (by omega)
 have l37:36<w.heap.size:=by omega
 clear h hg
 go_enter Tryz.func85,Tryz.ntmps85
 go_wp2_with (first|((with_reducible refine wpList_store_top ?_ 131 (.tmp 0) (.tmp 38) ?_ _ (errList E).toArray _ ?_ ?_ rfl (by kernel_rfl) (errList_one E) ?_);(rfl);(rfl);(rfl);(rfl))|((with_reducible refine wpList_build_as ?_ 131 [(0,.tmp 1),(1,.tmp 2),(2,.tmp 3),(3,.tmp 4),(4,.tmp 5),(5,.tmp 6),(6,.tmp 7),(7,.tmp 8),(8,.tmp 9),(9,.tmp 10),(10,.tmp 11),(11,.tmp 12),(12,.tmp 13),(13,.tmp 14),(14,.tmp 15),(15,.tmp 16),(16,.tmp 17),(17,.tmp 18),(18,.tmp 19),(19,.tmp 20),(20,.tmp 21),(21,.tmp 22),(22,.tmp 23),(23,.tmp 24),(24,.tmp 25),(25,.tmp 26),(26,.tmp 27),(27,.tmp 28),(28,.tmp 29),(29,.tmp 30),(30,.tmp 31),(31,.tmp 32),(32,.tmp 33),(33,.tmp 34),(34,.tmp 35),(35,.tmp 36),(36,.tmp 37)] ?_ (errList E).toArray ?_ ?_);(rfl);(rfl);(exact built_list E)))
 try go_frame
 exact bodyPost_ret (v:=.agg (errList E).toArray) (results_cell_row (p:=0) (ty:=131) (by kernel_rfl) _ _ w.heap.size _ _ _ _ rfl (heap_alloc_new w _) Tryz.underlying131 rfl (by kernel_rfl)) rfl ⟨rfl,(Fr.refl _ _).alloc _⟩
theorem errV_pos (E:Nat→Addr) (k:Nat) (hk:1≤k):errV E k=.iface 256 (.pointer (some (E k))):=by
 unfold errV;rw [if_neg (by omega)]
theorem errList_get (E:Nat→Addr) (j:Nat) (hj:j<37):(errList E)[j]? = some (.iface 256 (.pointer (some (E (j+1))))):=by
 have e:errList E=(List.range 37).map (fun i=>errV E (i+1)):=rfl
 rw [e,List.getElem?_map,List.getElem?_range hj,Option.map_some,errV_pos _ _ (by omega)]
theorem isAgg_error (w:World):(isAgg 40).run Tryz.prog w=.ok false w:=by kernel_rfl
theorem info_some {P:Program} {α:Type} {t:TypeId} {f:TypeInfo→α} {x:α} (h:(P.info? t).map f=some x):∃ i,P.info? t=some i∧f i=x:=by
 cases hq:P.info? t with
 |none=>simp [hq] at h
 |some i=>exact ⟨i,rfl,by simpa [hq] using h⟩
theorem infoErr:(Tryz.prog.info? 256).map (·.comparable)=some true:=by kernel_rfl
theorem infoErrS:(Tryz.prog.info? 272).map (·.size)=some 1:=by kernel_rfl
theorem eql_same (w:World) (b:Addr):(binOp .eql 40 (.iface 256 (.pointer (some b))) (.iface 256 (.pointer (some b)))).run Tryz.prog w=.ok (.bool true) w:=by
 obtain ⟨i,hi,hc⟩:=info_some infoErr
 obtain ⟨j,hj,_⟩:=info_some infoErrS
 exact run_eql_iface_ptr_same w _ Tryz.underlying40 Tryz.underlying256 hi hc hj
theorem eql_other (w:World) (b c:Addr) (hne:b≠c) {ca cb:Array Value} {ta tb:TypeId} (hb:w.heap[b.block]? = some (.cells ca ta (0,0))) (hcc:w.heap[c.block]? = some (.cells cb tb (0,0))) :
 (binOp .eql 40 (.iface 256 (.pointer (some b))) (.iface 256 (.pointer (some c)))).run Tryz.prog w=.ok (.bool false) w:=by
 obtain ⟨i,hi,hc⟩:=info_some infoErr
 obtain ⟨j,hj,hz⟩:=info_some infoErrS
 exact run_eql_iface_ptr_other w Tryz.underlying40 Tryz.underlying256 hi hc hj (by rw [hz];decide) hne hb hcc
set_option maxRecDepth 100000 in
theorem num_nil (w:World):Calls Tryz.prog 56 #[.nilIface] w fun e w'=>e=.returned (.int .i64 0)∧w=w':=by
 go_enter Tryz.func56,Tryz.ntmps56
 go_wp2
 go_ret
 exact ⟨rfl,rfl⟩
set_option maxRecDepth 100000 in
theorem num_err (w:World) (E:Nat→Addr) (hE:ErrsAt w E) (hg:gB≤w.heap.size) (k:Nat) (h1:1≤k) (h2:k≤37) :
 Calls Tryz.prog 56 #[.iface 256 (.pointer (some (E k)))] w fun e w'=>e=.returned (.int .i64 k)∧Fr noB w w':=by
 have HL:=Lib.hid (list_any w E hE.at_ hg)
 have HE:=Lib.hid hE
 clear hE hg
 go_enter Tryz.func56,Tryz.ntmps56
 go_wp2_with (go_at_call 85;refine HL.out.mono ?_;rintro e w1 ⟨rfl,hf⟩;have Hf:=Lib.hid hf;clear hf)
 go_loopw [8] (fun x wr=>∃ j:Nat,j<k∧x=.int .i64 j∧wr=w1) (fun x _=>k-(intOf x).toNat)
 case atStart=>exact ⟨0,by omega,rfl,rfl⟩
 case round=>
  obtain ⟨j,hj,rfl,rfl⟩:=hrel
  by_cases hjk:j+1=k
  ·subst hjk
   have he:=eql_same wr (E (j+1))
   go_wp2_with (first|((with_reducible refine wpList_index_cell ?_ 131 40 (.tmp 7) (.tmp 8) ?_ 37 Tryz.underlying131 (isAgg_error _) (by kernel_rfl) (errList E) j ?_ ?_ (by omega) _ (errList_get E j (by omega)) ?_);(rfl);(rfl);(rfl);(rfl)))
   go_ret
   exact ⟨rfl,Hf.out⟩
  ·have hne:E k≠E (j+1):=fun e=>hjk (HE.out.inj _ _ (by omega) (by omega) h1 h2 e.symm)
   obtain ⟨ca,ta,ha⟩:=HE.out.obj k h1 h2
   obtain ⟨cb,tb,hb⟩:=HE.out.obj (j+1) (by omega) (by omega)
   have ha1:=(Hf.out.block _ (Array.getElem?_eq_some_iff.1 ha).1 id).trans ha
   have hb1:=(Hf.out.block _ (Array.getElem?_eq_some_iff.1 hb).1 id).trans hb
   have he:=eql_other wr (E k) (E (j+1)) hne ha1 hb1
   clear ha hb ha1 hb1 hne
   go_wp2_with (first|((with_reducible refine wpList_index_cell ?_ 131 40 (.tmp 7) (.tmp 8) ?_ 37 Tryz.underlying131 (isAgg_error _) (by kernel_rfl) (errList E) j ?_ ?_ (by omega) _ (errList_get E j (by omega)) ?_);(rfl);(rfl);(rfl);(rfl)))
   go_roundw
   case rel=>exact ⟨j+1,by omega,by go_num,by first|rfl|trivial⟩
   case measure=>simp [intOf];omega
theorem num_any (w:World) (E:Nat→Addr) (hE:ErrsAt w E) (hg:gB≤w.heap.size) (k:Nat) (h2:k≤37) :
 Calls Tryz.prog 56 #[errV E k] w fun e w'=>e=.returned (.int .i64 k)∧Fr noB w w':=by
 by_cases h:k=0
 ·subst h
  refine (num_nil w).mono ?_
  rintro e w' ⟨rfl,rfl⟩
  exact ⟨rfl,Fr.refl _ _⟩
 ·rw [errV_pos _ _ (by omega)]
  exact num_err w E hE hg k (by omega) h2
end Go.Proofs.YtgipenahkmbelaaGreatDoor
namespace Go.Proofs.YtgipenahkmbelaaGreatDoor
open Go Go.RowKit
def fillOf (fill:UInt8):List UInt8:=(List.range 256).map fun i=>fill+UInt8.ofNat (i / 16)
def secOf (s:List UInt8) (fill:UInt8):List UInt8:=if s=[] then fillOf fill else s
end Go.Proofs.YtgipenahkmbelaaGreatDoor
namespace Go.Proofs.YtgipenahkmbelaaGreatDoor
open Go Go.RowKit
structure POp where
 kind:Int
 i:Int
 s:List UInt8
 fill:UInt8
 kept:List Bool
 torn:Int
 bytes:Int
def POp.cells (o:POp) (kv:Value):List Value:=[.int .i64 o.kind,.int .i64 o.i,.string ⟨o.s.toArray⟩,.int .u8 o.fill.toNat,kv,.int .i64 o.torn,.int .i64 o.bytes]
def POp.sec (o:POp):List UInt8:=secOf o.s o.fill
def OpsAt (w:World) (b o:Nat) (ops:List POp):Prop:=
 ∀ k op,ops[k]? = some op→∃ kv,w.rangeAt b (o+7*k) (op.cells kv)∧BoolsAt w kv op.kept
def ScriptAt (w:World) (v:Value) (ops:List POp):Prop:=
 ∃ a c,v=.slice a ops.length c∧(ops≠[]→∃ b o,a=some ⟨b,o,none⟩∧b<w.heap.size∧OpsAt w b o ops)
theorem range_keep {w w':World} {b o:Nat} {cs:List Value} (h:w.rangeAt b o cs) (e:w'.heap[b]? = w.heap[b]?):w'.rangeAt b o cs:=by
 intro j v hj
 have:=h j v hj
 unfold World.cell? at this ⊢
 rw [show (⟨b,o+j,none⟩:Addr).block=b from rfl] at this ⊢
 rw [e];exact this
theorem BoolsAt.keepB {w w':World} {kv:Value} {l:List Bool} (h:BoolsAt w kv l) (hs:w.heap.size≤w'.heap.size) (hk:∀ g,g<w.heap.size→w'.heap[g]? = w.heap[g]?):BoolsAt w' kv l:=by
 obtain ⟨a,c,rfl,h1,h2,h3⟩:=h
 refine ⟨a,c,rfl,fun hl=>?_,h2,h3⟩
 obtain ⟨b,o,rfl,hb,hr⟩:=h1 hl
 exact ⟨b,o,rfl,by omega,range_keep hr (hk b hb)⟩
theorem ScriptAt.keep {w w':World} {v:Value} {ops:List POp} (h:ScriptAt w v ops) (hs:w.heap.size≤w'.heap.size) (hk:∀ g,g<w.heap.size→w'.heap[g]? = w.heap[g]?):ScriptAt w' v ops:=by
 obtain ⟨a,c,rfl,h1⟩:=h
 refine ⟨a,c,rfl,fun hl=>?_⟩
 obtain ⟨b,o,rfl,hb,ho⟩:=h1 hl
 refine ⟨b,o,rfl,by omega,fun k op hop=>?_⟩
 obtain ⟨kv,h3,h4⟩:=ho k op hop
 exact ⟨kv,range_keep h3 (hk b hb),h4.keepB hs hk⟩
theorem ErrsAt.keepB {w w':World} {E:Nat→Addr} (h:ErrsAt w E) (hs:w.heap.size≤w'.heap.size) (hk:∀ g,g<w.heap.size→w'.heap[g]? = w.heap[g]?):ErrsAt w' E:=by
 have _:=hs
 refine ⟨fun k h1 h2=>?_,fun k h1 h2=>?_,h.inj⟩
 ·have h3:=h.at_ k h1 h2
  unfold ErrAt at h3 ⊢
  have hb:=block_lt_of_cell h3
  rw [World.cell?_of_block (w:=w) (hk _ hb)]
  exact h3
 ·obtain ⟨ca,ta,h3⟩:=h.obj k h1 h2
  exact ⟨ca,ta,(hk _ (Array.getElem?_eq_some_iff.1 h3).1).trans h3⟩
def POp.make (n:Nat) (o:POp) (D:Dsk):Dsk:=
 if o.kind=1 then D.writeD (((o.i % 18446744073709551616).toNat % n:Nat):Int) o.sec
 else if o.kind=2 then D.flushD
 else if o.kind=4 then D.crash o.kept o.torn o.bytes
 else D
end Go.Proofs.YtgipenahkmbelaaGreatDoor
namespace Go.Proofs.YtgipenahkmbelaaGreatDoor
open Go Go.RowKit
theorem DiskAt.move {w w':World} {F:Nat→Prop} {p:Nat} {D:Dsk} (hd:DiskAt w F p D) (h:∀ k,F k→w'.heap[k]? = w.heap[k]?):DiskAt w' F p D:=by
 obtain ⟨pd,pm,uv,hp,hpd,hu,hm,hF,hb,hok⟩:=hd
 refine ⟨pd,pm,uv,hp.keep (h _ hF.1),hpd.keep (h _ hF.2.1),ownsRow_keep hu (fun g hg=>h _ (hF.2.2.2 g hg)),hm.keep (h _ hF.2.2.1),hF,fun k hk=>⟨(hb k hk).1,?_⟩,hok⟩
 have h1:=h k hk
 have h2:=(hb k hk).2
 rw [Array.getElem?_eq_getElem h2] at h1
 exact (Array.getElem?_eq_some_iff.1 h1).1
def DiskP (p:Nat) (D:Dsk):SP:=⟨10,p,fun h=>∃ w F,DiskAt w F p D∧∀ k,F k→h k=w.heap[k]?⟩
section
variable {P:Program} {W:World}
theorem DiskP.at {w:World} {h:Hl} {p:Nat} {D:Dsk} (hd:(DiskP p D).ok h) (l:Lies W w h):∃ F,DiskAt w F p D∧∀ k,F k→∃ o,h k=some o:=by
 obtain ⟨w0,F,hd,e⟩:=hd
 have hs:∀ k,F k→∃ o,h k=some o∧w0.heap[k]? = some o:=fun k hk=>by
  have:=(hd.bound k hk).2
  exact ⟨_,(e k hk).trans (Array.getElem?_eq_getElem this),Array.getElem?_eq_getElem this⟩
 refine ⟨F,hd.move fun k hk=>?_,fun k hk=>(hs k hk).imp fun o h=>h.1⟩
 obtain ⟨o,h1,h2⟩:=hs k hk
 rw [h2];exact (l k o h1).2
open Classical in
theorem DiskP.of {w:World} {F:Nat→Prop} {p:Nat} {D:Dsk} (hd:DiskAt w F p D):(DiskP p D).ok (fun k=>if F k then w.heap[k]? else none):=⟨w,F,hd,fun k hk=>by simp [hk]⟩
theorem Ct_disk {X:Type} {r:X→Value} {f:FuncId} {args:List Value} {p:Nat} {D:Dsk} {D':X→Dsk} (Hk:List SP)
 (h:∀ w F hk,Below W.heap.size W w→DiskAt w F p D→zAj Hk hk→Lies W w hk→(∀ k o,hk k=some o→¬ F k)→(∀ k,F k→W.heap.size≤k)→Calls P f args.toArray w fun e w'=>∃ x F',e=.returned (r x)∧DiskAt w' F' p (D' x)∧Fr F w w'∧∀ k,F' k→F k∨w.heap.size≤k) :
 Ct P W f args (DiskP p D::Hk) r (fun x=>DiskP p (D' x)::Hk):=by
 refine ⟨fun R w s=>?_⟩
 obtain ⟨h1,h2,dj,hA,hH,l1,l2⟩:=(show St W ([DiskP p D]++(Hk++R)) w from s).split
 obtain ⟨ha,_,_,lea,_,hd,_⟩:=hA
 obtain ⟨F,hd,hF⟩:=DiskP.at hd (l1.mono lea)
 have hF1:∀ k,F k→∃ o,h1 k=some o:=fun k hk=>(hF k hk).imp fun o h=>lea k o h
 obtain ⟨hk,hr,djk,le3,le4,hHk,hHr⟩:=(zBp h2).1 hH
 refine (h w F hk s.below hd hHk (l2.mono le3) (fun k o q hk'=>?_) (fun k hk'=>?_)).mono ?_
 ·obtain ⟨o',h'⟩:=hF1 k hk'
  have:=dj k o' h'
  rw [le3 k o q] at this;cases this
 ·obtain ⟨o',h'⟩:=hF1 k hk'
  exact (l1 k o' h').1
 rintro e w' ⟨x,F',rfl,hd',hf,hF'⟩
 refine ⟨x,rfl,?_⟩
 show St W ([DiskP p (D' x)]++(Hk++R)) w'
 refine St.join s.below dj hH l1 l2 (starL_one (DiskP.of hd')) hf.os hf.tape hf.output hf.size ?_ ?_ ?_
 ·intro k o q
  by_cases hk:F' k
  ·simpa [hk] using q
  ·simp [hk] at q
 ·intro k o q
  by_cases hk:F' k
  ·rcases hF' k hk with h|h
   ·exact .inl (hF1 k h)
   ·exact .inr h
  ·simp [hk] at q
 ·intro k hk hn
  refine hf.block k hk (fun h=>?_)
  obtain ⟨o,h'⟩:=hF1 k h
  rw [hn] at h';cases h'
theorem Ct_pure {X:Type} {r:X→Value} {f:FuncId} {args:List Value} (Hk:List SP)
 (h:∀ w hk,Below W.heap.size W w→zAj Hk hk→Lies W w hk→Calls P f args.toArray w fun e w'=>∃ x,e=.returned (r x)∧Fr noB w w') :
 Ct P W f args Hk r (fun _=>Hk):=by
 refine ⟨fun R w s=>?_⟩
 obtain ⟨h1,h2,dj,hA,hH,l1,l2⟩:=s.split
 refine (h w h1 s.below hA l1).mono ?_
 rintro e w' ⟨x,rfl,hf⟩
 refine ⟨x,rfl,?_⟩
 have keep:∀ k,k<w.heap.size→w'.heap[k]? = w.heap[k]?:=fun k hk=>hf.block k hk (by simp [noB])
 exact St.join (g:=h1) s.below dj hH l1 l2 hA hf.os hf.tape hf.output hf.size (fun k o q=>(keep k (l1.lt q)).trans (l1 k o q).2) (fun k o q=>.inl ⟨o,q⟩) (fun k hk _=>keep k hk)
theorem Ct_made {X:Type} {r:X→Value} {f:FuncId} {args:List Value} {A:X→SP}
 (h:∀ w,Below W.heap.size W w→Calls P f args.toArray w fun e w'=>∃ x,e=.returned (r x)∧Fr noB w w'∧∃ g:Hl,(A x).ok g∧∀ k o,g k=some o→w.heap.size≤k∧w'.heap[k]? = some o) :
 Ct P W f args [] r (fun x=>[A x]):=by
 refine ⟨fun R w s=>?_⟩
 obtain ⟨h1,h2,dj,hA,hH,l1,l2⟩:=s.split
 refine (h w s.below).mono ?_
 rintro e w' ⟨x,rfl,hf,g,hg,hl⟩
 refine ⟨x,rfl,?_⟩
 have keep:∀ k,k<w.heap.size→w'.heap[k]? = w.heap[k]?:=fun k hk=>hf.block k hk (by simp [noB])
 exact St.join (g:=g) s.below dj hH l1 l2 (starL_one hg) hf.os hf.tape hf.output hf.size (fun k o q=>(hl k o q).2) (fun k o q=>.inr (hl k o q).1) (fun k hk _=>keep k hk)
structure ErrsOn (S:List Nat) (w:World) (E:Nat→Addr):Prop where
 at_:∀ k,k ∈ S→ErrAt w E k
 obj:∀ k,k ∈ S→∃ ca ta,w.heap[(E k).block]? = some (.cells ca ta (0,0))
 inj:∀ j k,j ∈ S→k ∈ S→E j=E k→j=k
 pos:∀ k,k ∈ S→1≤k
abbrev L8:List Nat:=[3,6,7,12,14]
theorem ErrsAt.on {w:World} {E:Nat→Addr} (h:ErrsAt w E):ErrsOn L8 w E:=by
 have hS:∀ k ∈ L8,1≤k∧k≤37:=by decide
 exact ⟨fun k hk=>h.at_ k (hS k hk).1 (hS k hk).2,fun k hk=>h.obj k (hS k hk).1 (hS k hk).2,fun j k hj hk=>h.inj j k (hS j hj).1 (hS j hj).2 (hS k hk).1 (hS k hk).2,fun k hk=>(hS k hk).1⟩
theorem ErrsAt.all {w:World} {E:Nat→Addr} (h:ErrsAt w E):ErrsOn (List.range' 1 37) w E:=by
 have hS:∀ k ∈ List.range' 1 37,1≤k∧k≤37:=by decide
 exact ⟨fun k hk=>h.at_ k (hS k hk).1 (hS k hk).2,fun k hk=>h.obj k (hS k hk).1 (hS k hk).2,fun j k hj hk=>h.inj j k (hS j hj).1 (hS j hj).2 (hS k hk).1 (hS k hk).2,fun k hk=>(hS k hk).1⟩
theorem ErrAt.keepB {w w':World} {E:Nat→Addr} {k:Nat} (h:ErrAt w E k) (hk:∀ g,g<w.heap.size→w'.heap[g]? = w.heap[g]?):ErrAt w' E k:=by
 unfold ErrAt at h ⊢
 have hb:=World.block_lt_of_cell? w _ h
 rw [World.cell?_of_block (w:=w) (hk _ hb)]
 exact h
theorem ErrsOn.later {S:List Nat} {W w:World} {E:Nat→Addr} (h:ErrsOn S W E) (b:Below W.heap.size W w):ErrsOn S w E:=
 ⟨fun k hk=>(h.at_ k hk).keepB b.block,fun k hk=>by
  obtain ⟨ca,ta,q⟩:=h.obj k hk
  exact ⟨ca,ta,(b.block _ (Array.getElem?_eq_some_iff.1 q).1).trans q⟩,h.inj,h.pos⟩
theorem ErrsAt.later {w:World} {E:Nat→Addr} (h:ErrsAt W E) (b:Below W.heap.size W w):ErrsAt w E:=h.keepB b.size b.block
end
section
variable {W:World} {E:Nat→Addr} {p:Nat} {D:Dsk}
theorem fr_below {F:Nat→Prop} {w w':World} (h:w=w'):Fr F w w':=by subst h;exact Fr.refl _ _
theorem size_ct:Ct Tryz.prog W 59 [.pointer (some ⟨p,0,none⟩)] [DiskP p D] (fun _:Unit=>.int .i64 D.n) (fun _=>[DiskP p D]):=
 Ct_disk (D':=fun _=>D) [] fun w F _ _ hd _ _ _ _=>(size_any w F p D hd).mono fun _ _ ⟨he,hw⟩=>⟨(),F,he,hw ▸ hd,fr_below hw,fun _ h=>.inl h⟩
theorem off_ct:Ct Tryz.prog W 60 [.pointer (some ⟨p,0,none⟩)] [DiskP p D] (fun _:Unit=>.bool D.off) (fun _=>[DiskP p D]):=
 Ct_disk (D':=fun _=>D) [] fun w F _ _ hd _ _ _ _=>(off_any w F p D hd).mono fun _ _ ⟨he,hw⟩=>⟨(),F,he,hw ▸ hd,fr_below hw,fun _ h=>.inl h⟩
theorem life_ct:Ct Tryz.prog W 92 [.pointer (some ⟨p,0,none⟩)] [DiskP p D] (fun _:Unit=>.int .i64 D.life) (fun _=>[DiskP p D]):=
 Ct_disk (D':=fun _=>D) [] fun w F _ _ hd _ _ _ _=>(life_any w F p D hd).mono fun _ _ ⟨he,hw⟩=>⟨(),F,he,hw ▸ hd,fr_below hw,fun _ h=>.inl h⟩
theorem read_ct (hE:ErrsOn L8 W E) (i:Int):Ct Tryz.prog W 89 [.pointer (some ⟨p,0,none⟩),.int .i64 i] [DiskP p D] (fun _:Unit=>.tuple #[strV (D.readS i),errV E (D.readE i)]) (fun _=>[DiskP p D]):=
 Ct_disk (D':=fun _=>D) [] fun w F _ b hd _ _ _ _=>(read_any w F p D E hd i ((hE.later b).at_ 12 (by decide)) ((hE.later b).at_ 6 (by decide))).mono fun e w' ⟨he,hf⟩=>⟨(),F,he,hd.fr hf (fun _ _ q=>q),hf.mono (fun _ q=>q.elim),fun _ h=>.inl h⟩
theorem write_ct (hE:ErrsOn L8 W E) (i:Int) (s:List UInt8) (hul:D.und.length<1073741824):Ct Tryz.prog W 135 [.pointer (some ⟨p,0,none⟩),.int .i64 i,strV s] [DiskP p D] (fun _:Unit=>errV E (D.writeE i s)) (fun _=>[DiskP p (D.writeD i s)]):=
 Ct_disk (D':=fun _=>D.writeD i s) [] fun w F _ b hd _ _ _ _=>(write_any w F p D E hd i s ((hE.later b).at_ 12 (by decide)) ((hE.later b).at_ 6 (by decide)) ((hE.later b).at_ 7 (by decide)) hul).mono fun e w' ⟨he,F',hd',hf,hF⟩=>⟨(),F',he,hd',hf,hF⟩
theorem flush_ct (hE:ErrsOn L8 W E) (hul:D.und.length<1073741824):Ct Tryz.prog W 136 [.pointer (some ⟨p,0,none⟩)] [DiskP p D] (fun _:Unit=>errV E D.flushE) (fun _=>[DiskP p D.flushD]):=
 Ct_disk (D':=fun _=>D.flushD) [] fun w F _ b hd _ _ _ _=>(flush_any w F p D E hd ((hE.later b).at_ 12 (by decide)) hul).mono fun e w' ⟨he,hd',hf⟩=>⟨(),F,he,hd',hf,fun _ h=>.inl h⟩
theorem numA_ct (hE:ErrsAt W E) (hg:gB≤W.heap.size) (k:Nat) (hk:k≤37):Ct Tryz.prog W 56 [errV E k] [] (fun _:Unit=>.int .i64 k) (fun _=>[]):=
 Ct_pure [] fun w _ b _ _=>(num_any w E (hE.later b) (Nat.le_trans hg b.size) k hk).mono fun _ _ ⟨he,hf⟩=>⟨(),he,hf⟩
theorem new_ct (n:Nat) (h1:1≤n) (h2:n≤65536) (hg:gB≤W.heap.size):Ct Tryz.prog W 33 [.int .i64 n] [] (fun p:Nat=>.tuple #[.pointer (some ⟨p,0,none⟩),.nilIface]) (fun p=>[DiskP p (Dsk.blank n)]):=
 Ct_made fun w b=>(new_ok w n h1 h2 (Nat.le_trans hg b.size)).mono fun e w' ⟨p,F,he,hd,hf,hF⟩=>⟨p,he,hf,_,DiskP.of hd,fun k o q=>by
  by_cases hk:F k
  ·exact ⟨hF k hk,by simpa [hk] using q⟩
  ·simp [hk] at q⟩
end
end Go.Proofs.YtgipenahkmbelaaGreatDoor
