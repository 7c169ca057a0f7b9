/-
  Disk7, Disk8, Disk9, DiskA, Num, Sect, Script.
-/
import Derived.Test.YtoipmnikdiogcaaGreatDoorYAU
set_option maxRecDepth 100000
set_option maxHeartbeats 64000000
namespace Go.Proofs.YtoipmnikdiogcaaGreatDoor
open Go Go.RowKit
open Go.Proofs.Tryz
def BoolsAt (w:World) (v:Value) (l:List Bool):Prop:=∃ a c,v=.slice a l.length c∧(l≠[]→∃ b o,a=some ⟨b,o,none⟩∧b<w.heap.size∧w.rangeAt b o (l.map .bool))∧(a=none→c=0)∧l.length≤c∧c≤maxLen
theorem Flushing.skip {w wr:World} {F:Nat→Prop} {p pd pm:Nat} {uv:Value} {D:Dsk} {img:zB} (h:Flushing w F p pd pm uv D img wr) (O:Obj):Flushing w F p pd pm uv D img (wr.alloc O):=by obtain ⟨hp,hpd,hu,hm,fr⟩:=h;exact ⟨hp.keep (Below.heap_alloc _ _ _ hp.lt),hpd.keep (Below.heap_alloc _ _ _ hpd.lt),hu.alloc _,hm.keep (Below.heap_alloc _ _ _ hm.lt),fr.alloc _⟩
theorem yT0 (w:World) (F:Nat→Prop) (p:Nat) (D:Dsk) (hd:DiskAt w F p D) (kv:Value) (kept:List Bool) (torn bytes:Int) (hk:BoolsAt w kv kept) (hkF:kept≠[]→∀ g,kv.ownBlock=some g→¬ F g) (_hul:D.und.length<1073741824) :Calls prog 29 #[zPp p,.agg #[kv,zi torn,zi bytes]] w fun e w'=>e=.returned (.tuple #[])∧DiskAt w' F p (D.crash kept torn bytes)∧Fr F w w':=by
 obtain ⟨pd,pm,uv,hp,hpd,hu,hm,hF,hb,am⟩:=hd;obtain ⟨ua,uc,rfl⟩:=yHL hu;obtain ⟨ka,kc,rfl,hkc,-⟩:=hk;have lp:=hp.lt;have c1:w.cell? ⟨p,1,none⟩=some (.slice ua D.und.length uc):=by rw [hp.cell];rfl
 have HI:=Lib.hid (And.intro hF (And.intro hb am));have HK:=Lib.hid hkc;have HkF:=Lib.hid hkF
 have HI0:Hid (Flushing (w.alloc (.cells #[.slice ka kept.length kc,zi torn,zi bytes] 41)) F p pd pm (.slice ua D.und.length uc) D D.img (w.alloc (.cells #[.slice ka kept.length kc,zi torn,zi bytes] 41))):=
  ⟨hp.keep (Below.heap_alloc _ _ _ hp.lt),hpd.keep (Below.heap_alloc _ _ _ hpd.lt),hu.alloc _,hm.keep (Below.heap_alloc _ _ _ hm.lt),Fr.refl _ _⟩
 clear hp hpd hu hm hF hb am hkc hkF
 go_enter func29,ntmps29
 go_wp2_with (fail)
 go_loopw [12] (fun x wr=>∃ k:Nat,k≤D.und.length∧x=.int .i64 k∧Hid (Flushing (w.alloc (.cells #[.slice ka kept.length kc,zi torn,zi bytes] 41)) F p pd pm (.slice ua D.und.length uc) D (yB7 D.img kept torn bytes (D.und.take k)) wr)) (fun x _=>D.und.length-(intOf x).toNat)
 case atStart=>exact ⟨0,zLA _,rfl,by rw [List.take_zero];exact HI0.out⟩
 case round=>
  obtain ⟨k,hk,rfl,HR⟩:=hrel;have aP:=HI.out.2.2;have b2:=aP.n2;clear HI0;by_cases hlt:k<D.und.length
  ·obtain ⟨j,b,i7⟩:∃ j b,D.und[k]? = some (j,b):=⟨(D.und[k]).1,(D.und[k]).2,by rw [zLb hlt]⟩;have km:=aP.und _ (zLk i7);have hj:j<D.n:=km.1;have Hbl:Hid (b.length=256):=km.2;obtain ⟨g,cap,hv,eF,dt,hgl,hg⟩:=yMy HR.out.hu aP.und k j b i7;cases hv;unfold maxLen at dt;have c0:wr.cell? ⟨p,0,none⟩=some (.slice (zq pd) D.n D.n):=by rw [HR.out.hp.cell];rfl
   have lpr:=HR.out.hp.lt;have hsw:w.heap.size+1≤wr.heap.size:=by have:=HR.out.fr.size;simpa using this
   have hsw2:w.heap.size<wr.heap.size:=zO;have nF:¬ F w.heap.size:=fun q=>by have:=(HI.out.2.1 _ q).2;omega
   have fc:∀ z,wr.cell? ⟨w.heap.size,z,none⟩=(#[.slice ka kept.length kc,zi torn,zi bytes]:Array Value)[z]?:=fun z=>
    (HR.out.fr.cell (a:=⟨w.heap.size,z,none⟩) zW nF).trans (cell_of_row _ _ _ _ _ _ (heap_alloc_new w _))
   have f0:wr.cell? ⟨w.heap.size,0,none⟩=some (.slice ka kept.length kc):=fc 0;have f1:wr.cell? ⟨w.heap.size,1,none⟩=some (zi torn):=fc 1;have f2:wr.cell? ⟨w.heap.size,2,none⟩=some (zi bytes):=fc 2;have Hg:=Lib.hid hg;have Hkj:=Lib.hid i7;have HLen:Hid ((yB7 D.img kept torn bytes (D.und.take k)).length=256*D.n):=yDI _ _ _ _ _ _ aP.len (fun x hx=>aP.und x (List.mem_of_mem_take hx));clear aP km hg i7 fc nF c1;have HS:Hid ((wr.alloc (.cells (yAS (j,b)).toArray 126)).drew.cell? ⟨p,0,none⟩=some (.slice (zq pd) D.n D.n)∧(wr.alloc (.cells (yAS (j,b)).toArray 126)).drew.cell? ⟨wr.heap.size,0,none⟩=some (zi j)∧(wr.alloc (.cells (yAS (j,b)).toArray 126)).drew.rangeAt wr.heap.size 1 (bvs b)):=by have hrn:=yEf wr (yAS (j,b)) 126;refine ⟨(World.cell?_of_block (w:=wr) (Below.heap_alloc _ _ _ lpr)).trans c0,hrn 0 _ rfl,fun z v hz=>?_⟩;have:=hrn (z+1) v (by simpa [yAS] using hz);rw [show 1+z=0+(z+1) by omega];exact this
   have HB2:Hid (Blk (wr.alloc (.cells (yAS (j,b)).toArray 126)).drew pd (bvs (yB7 D.img kept torn bytes (D.und.take k))) 95):=HR.out.hpd.keep (Below.heap_alloc _ _ _ HR.out.hpd.lt)
   go_upto_region 4 with (first|((with_reducible refine wpList_load_mid ?_ 126 (.tmp 15) ?_ g (k*257) ?_ (yAS (j,b)) _ Hg.out underlying126 rfl (by rw [yEc,yCc _ _ Hbl.out]) ?_);(rfl);(rfl);(rfl))|((with_reducible refine yBG ?_ 126 (.tmp 5) (.tmp 16) ?_ _ (yAS (j,b)).toArray _ ?_ ?_ (by rw [zeroCells126_size,List.size_toArray,yCc _ _ Hbl.out]) (by rw [yEc,List.size_toArray,yCc _ _ Hbl.out]) (yTX _) ?_);(rfl);(rfl);(rfl);(rfl)))
   go_frame
   by_cases htorn:(k:Int)=torn
   ·have ht:((k:Int) == torn)=true:=by simpa using htorn
    obtain ⟨nn,dc,hn256⟩:∃ nn:Nat,min (max bytes 0) 256=nn∧nn≤256:=⟨(min (max bytes 0) 256).toNat,zO,zO⟩;have HDn:Hid (done kept torn bytes k=nn):=by show _=_;unfold done;rw [if_pos htorn,dc];rfl
    have cN:(0:Int)≤(nn:Int):=zO;have cO:(nn:Int)≤256:=zO;have HN:=Lib.hid dc;have Htl:Hid ((bvs (b.take nn)).length=nn):=by show _=_;rw [yBg,zLg,Hbl.out];omega
    have Hrt:Hid ((wr.alloc (.cells (yAS (j,b)).toArray 126)).drew.rangeAt wr.heap.size 1 (bvs (b.take nn))):=fun z v hz=>HS.out.2.2 z v (by rw [← yJv] at hz;rw [List.getElem?_take] at hz;split at hz;exact hz;cases hz);clear dc htorn
    go_upto_region 6 with (first|((with_reducible refine yO8 ?_ (.tmp 23) (.const (zi 0)) 3 3 ?_ bytes 0 (max bytes 0) ?_ ?_ rfl ?_);(rfl);(rfl);(rfl);(rfl))|((with_reducible refine yO9 ?_ (.tmp 24) (.const (zi 256)) 3 3 ?_ (max bytes 0) 256 nn ?_ ?_ HN.out ?_);(rfl);(rfl);(rfl);(rfl)))
    refine yDl 12 12 (fun w'=>w'.cell? ⟨p,0,none⟩=some (.slice (zq pd) D.n D.n)∧w'.cell? ⟨wr.heap.size,0,none⟩=some (zi j)∧w'.rangeAt wr.heap.size 1 (bvs b)) zK ?_ ?_ HS.out ?_
    ·kernel_rfl
    ·intro c a d v w h;cases d <;> exact h
    simp only [List.take_succ_cons,List.take_zero,List.drop_succ_cons,zLo,Nat.reduceSub];refine yDe rfl _ rfl (zPp p) rfl ?_
    go_frame
    refine yA9 rfl rfl (zPp p) (fun w'=>by go_simp) ?_
    go_frame
    refine yA9 rfl rfl (zPp p) (fun w'=>by go_simp) ?_
    go_frame
    refine yCJ rfl rfl (.slice (zq pd) D.n D.n) (fun w' hS=>by have kq:=hS.1;clear hS;go_simp) ?_
    go_frame
    refine yA9 rfl rfl (.pointer (some ⟨wr.heap.size,0,none⟩)) (fun w'=>by go_simp) ?_
    go_frame
    refine yCJ rfl rfl (zi j) (fun w' hS=>by have kq:=hS.2.1;clear hS;go_simp) ?_
    go_frame
    refine yA9 rfl rfl (.pointer (some ⟨pd,j*256,none⟩)) (fun w'=>by go_simp) ?_
    go_frame
    refine yDe rfl _ rfl (zi nn) rfl ?_
    go_frame
    refine yA9 rfl rfl (.slice (some ⟨pd,j*256,none⟩) nn 256) (fun w'=>by go_simp) ?_
    go_frame
    refine yA9 rfl rfl (.pointer (some ⟨wr.heap.size,1,none⟩)) (fun w'=>by go_simp) ?_
    go_frame
    refine yDe rfl _ rfl (zi nn) rfl ?_
    go_frame
    refine yA9 rfl rfl (.slice (some ⟨wr.heap.size,1,none⟩) nn 256) (fun w'=>by go_simp) ?_
    go_frame
    unfold yEk yEZ
    (with_reducible refine yJU ?_ (.tmp 34) (.tmp 37) 69 69 5 ?_ underlying69 yNH pd (j*256) nn 256 wr.heap.size 1 nn 256 _ (bvs (b.take nn)) 95 ?_ ?_ HB2.out (by rw [Htl.out];exact (Nat.min_self nn).symm) Hrt.out (by rw [Htl.out,yBg,HLen.out];omega) (yFj _) ?_);rfl;rfl;rfl;rfl
    go_wp2
    go_roundw
    case rel=>
     refine ⟨k+1,zO,by go_num,?_⟩;rw [yDN _ _ _ _ _ _ _ _ Hkj.out,HDn.out];have:=HR.out.next HI.out.1.2.1 (.cells (yAS (j,b)).toArray 126) (j*256) (b.take nn);rw [yJ1];exact this
    case measure=>simp [intOf];omega
   have ht:((k:Int) == torn)=false:=by simpa using htorn
   by_cases dv:k<kept.length
   ·obtain ⟨kb,ko,hka,hkb,hkr⟩:=HK.out (by intro e;rw [e] at dv;simp at dv);subst hka;have fk:wr.cell? ⟨kb,ko+k,none⟩=some (.bool kept[k]):=by have h1:=HR.out.fr.cell (a:=⟨kb,ko+k,none⟩) (by simp;omega) (HkF.out (by intro e;rw [e] at dv;simp at dv) kb rfl);rw [h1];exact (World.cell?_of_block (w:=w) (Below.heap_alloc _ _ _ hkb)).trans (hkr k _ (by simp [dv]))
    have lkb:kb<wr.heap.size:=zO;have iJ:decide (k<kept.length)=true:=by simpa using dv
    have HDn0:Hid (done kept torn bytes k=if kept[k] then 256 else 0):=by show _=_;unfold done;rw [if_neg htorn];simp [List.getD,dv]
    clear htorn hkr;cases dY:kept[k]
    ·rw [dY] at fk;have HDn:Hid (done kept torn bytes k=0):=by show _=_;rw [HDn0.out,dY];rfl
     clear dY HDn0
     go_wp2
     go_roundw
     case rel=>
      refine ⟨k+1,zO,by go_num,?_⟩;rw [yDN _ _ _ _ _ _ _ _ Hkj.out,HDn.out];rw [List.take_zero,yMo];exact HR.out.skip _
     case measure=>simp [intOf];omega
    rw [dY] at fk;have HDn:Hid (done kept torn bytes k=256):=by show _=_;rw [HDn0.out,dY];rfl
    clear dY HDn0
    go_upto_region 8 with (fail)
    refine yDl 9 9 (fun w'=>w'.cell? ⟨p,0,none⟩=some (.slice (zq pd) D.n D.n)∧w'.cell? ⟨wr.heap.size,0,none⟩=some (zi j)∧w'.rangeAt wr.heap.size 1 (bvs b)) zK ?_ ?_ HS.out ?_
    ·kernel_rfl
    ·intro c a d v w h;cases d <;> exact h
    simp only [List.take_succ_cons,List.take_zero,List.drop_succ_cons,zLo,Nat.reduceSub];refine yDe rfl _ rfl (zPp p) rfl ?_
    go_frame
    refine yA9 rfl rfl (zPp p) (fun w'=>by go_simp) ?_
    go_frame
    refine yA9 rfl rfl (zPp p) (fun w'=>by go_simp) ?_
    go_frame
    refine yCJ rfl rfl (.slice (zq pd) D.n D.n) (fun w' hS=>by have kq:=hS.1;clear hS;go_simp) ?_
    go_frame
    refine yA9 rfl rfl (.pointer (some ⟨wr.heap.size,0,none⟩)) (fun w'=>by go_simp) ?_
    go_frame
    refine yCJ rfl rfl (zi j) (fun w' hS=>by have kq:=hS.2.1;clear hS;go_simp) ?_
    go_frame
    refine yA9 rfl rfl (.pointer (some ⟨wr.heap.size,1,none⟩)) (fun w'=>by go_simp) ?_
    go_frame
    refine yEl rfl 95 (.tmp 58) rfl wr.heap.size 1 rfl (bvs b) _ (fun w' hS=>hS.2.2) underlying95 rfl (by rw [yCa,yBg,Hbl.out]) ?_
    go_frame
    refine yA9 rfl rfl (.pointer (some ⟨pd,j*256,none⟩)) (fun w'=>by go_simp) ?_
    go_frame
    unfold yEk yEZ
    (with_reducible refine yFM ?_ 95 (.tmp 60) (.tmp 59) ?_ pd (j*256) _ (bvs b) 95 ?_ ?_ HB2.out (by rw [yBg,yBg,HLen.out,Hbl.out];omega) (by rw [yCa,yBg,Hbl.out]) (yFj _) ?_);rfl;rfl;rfl;rfl
    go_wp2
    go_roundw
    case rel=>
     refine ⟨k+1,zO,by go_num,?_⟩;rw [yDN _ _ _ _ _ _ _ _ Hkj.out,HDn.out];have:=HR.out.next HI.out.1.2.1 (.cells (yAS (j,b)).toArray 126) (j*256) b;rw [yJ1];rw [show b.take 256=b from zLi (by rw [Hbl.out];omega)];exact this
    case measure=>simp [intOf];omega
   ·have iJ:decide (k<kept.length)=false:=by simpa using dv
    have HDn:Hid (done kept torn bytes k=0):=by show _=_;unfold done;rw [if_neg htorn];simp [List.getD,List.getElem?_eq_none (show kept.length≤k by omega)]
    clear htorn
    go_wp2
    go_roundw
    case rel=>
     refine ⟨k+1,zO,by go_num,?_⟩;rw [yDN _ _ _ _ _ _ _ _ Hkj.out,HDn.out];rw [List.take_zero,yMo];exact HR.out.skip _
    case measure=>simp [intOf];omega
  ·have dv:k=D.und.length:=by omega
   obtain ⟨Df,kI⟩:∃ Df:Dsk,Df={ D with img:=yB7 D.img kept torn bytes D.und }:=⟨_,rfl⟩;have ai:(yB7 D.img kept torn bytes D.und).length=256*D.n:=yDI _ _ _ _ _ _ aP.len aP.und;have hdr:DiskAt wr F p Df:=by have aW:=HR.out;rw [dv,List.take_length] at aW;rw [kI];exact ⟨pd,pm,_,aW.hp,aW.hpd,aW.hu,aW.hm,HI.out.1,fun i hi=>⟨(HI.out.2.1 i hi).1,by have:=(HI.out.2.1 i hi).2;have:=aW.fr.size;simp at this;omega⟩,⟨aP.n1,aP.n2,ai,aP.und,aP.arm1,aP.arm2⟩⟩
   have HSt:=Lib.hid (yJ0 wr F p Df hdr);have HDf:Hid (D.crash kept torn bytes={ ({ ({ Df.clr with armed:=-1 }:Dsk) with off:=false }:Dsk) with life:=w64 (Df.clr.life+1) }):=by show _=_;rw [kI];rfl
   have HFr:Hid (Fr F w wr):=((Fr.refl F w).alloc _).trans' HR.out.fr;clear aP dv kI ai hdr HR
   go_upto_region 11 with (go_at_call 70;refine HSt.out.mono ?_;rintro e w2 ⟨rfl,cV⟩;have f3:=cV.1.cell.2.2.2.2.2 3;have f4:=cV.1.cell.2.2.2.2.2 4;have c4:=cV.1.cell.2.1;have c3:=cV.1.cell.1;have c7:=cV.1.cell.2.2.2.2.1;have f7:=cV.1.cell.2.2.2.2.2 7;have Hd2:=Lib.hid cV;clear cV)
   go_wp2
   go_end0
   refine ⟨rfl,?_,(((HFr.out.trans' Hd2.out.2).setCell (.inl HI.out.1.1) _).setCell (.inl HI.out.1.1) _).setCell (.inl HI.out.1.1) _⟩;rw [HDf.out];have hg:=Hd2.out.1.good;have s4:=Hd2.out.1.store 4 (zi (-1)) { Df.clr with armed:=-1 } rfl rfl rfl (fun a u m=>rfl) ⟨hg.n1,hg.n2,hg.len,hg.und,by show (-1:Int)≤-1;omega,by show (-1:Int)≤_;omega⟩;have s3:=s4.store 3 (.bool false) ({ ({ Df.clr with armed:=-1 }:Dsk) with off:=false }:Dsk) rfl rfl rfl (fun a u m=>rfl) ⟨hg.n1,hg.n2,hg.len,hg.und,by show (-1:Int)≤-1;omega,by show (-1:Int)≤_;omega⟩;exact s3.store 7 _ _ rfl rfl rfl (fun a u m=>rfl) ⟨hg.n1,hg.n2,hg.len,hg.und,by show (-1:Int)≤-1;omega,by show (-1:Int)≤_;omega⟩
theorem yLF:(prog.info? 5).map (fun i=>(i.zero.map (·.cells.size),i.size,i.bytes))=some (some 1,1,1):=zK
theorem yT1 (w:World) (F:Nat→Prop) (p:Nat) (D:Dsk) (hd:DiskAt w F p D) :Calls prog 10 #[zPp p] w fun e w'=>e=.returned (.string ⟨D.img.toArray⟩)∧Fr noB w w':=by
 obtain ⟨pd,pm,uv,hp,hpd,hu,hm,hF,hb,am⟩:=hd;have c0:w.cell? ⟨p,0,none⟩=some (.slice (zq pd) D.n D.n):=by rw [hp.cell];rfl
 have lp:=hp.lt;have b2:=am.n2;have HI:=Lib.hid (And.intro hpd am);clear hp hpd hu hm hF hb am
 go_enter func10,ntmps10
 go_upto_region 2 with (first|((with_reducible refine yIA ?_ (.const (zi 0)) (.tmp 11) 69 5 ?_ underlying69 1 1 yLF ((D.n:Int)*256) (D.n*256) ?_ ?_ zO zO (by unfold maxLen;omega) ?_);(rfl);(rfl);(rfl);(rfl);(intro w1 cU)))
 have sz1:w.heap.size≤w1.heap.size:=cU.out.2.size;have d0:w1.cell? ⟨p,0,none⟩=some (.slice (zq pd) D.n D.n):=(World.cell?_of_block (cU.out.2.block p lp zW)).trans c0;clear c0
 go_wp2_with (fail)
 go_loopw [3,18] (fun v x wr=>∃ k:Nat,k≤D.n∧x=.int .i64 k∧(∃ a c,v=.slice a (k*256) c)∧Hid (wr.ownsRow 0 5 1 v (k*256) (bvs (D.img.take (k*256)))∧Fr noB w wr∧∀ g,v.ownBlock=some g→w.heap.size≤g)) (fun _ x _=>D.n-(intOf x).toNat)
 case atStart=>exact ⟨0,zLA _,rfl,⟨_,_,by rw [Nat.zero_mul]⟩,by rw [Nat.zero_mul,List.take_zero];exact cU.out.1,(Fr.refl _ _).grown cU.out.2 (fun k hk=>by cases hk),fun g hg=>by cases hg;exact Nat.le_refl _⟩
 case round=>
  obtain ⟨k,hk,rfl,⟨va,vc,rfl⟩,HR⟩:=hrel;have hokl:=HI.out.2.len;by_cases hlt:k<D.n
  ·obtain ⟨bs,jq⟩:∃ bs,bs=cut D.img (k*256) 256:=⟨_,rfl⟩;have Hbl:Hid (bs.length=256):=by rw [jq];exact yBY _ _ _ zO
   have HRg:Hid (wr.rangeAt pd (k*256) (bvs bs)):=by intro z v hz;have h1:=HI.out.1.range (o:=k*256) (n:=256);rw [yMh,yJv] at h1;rw [jq] at hz;rw [HR.out.2.1.cell (a:=⟨pd,k*256+z,none⟩) HI.out.1.lt id];exact h1 z v hz
   have Htk:Hid (D.img.take ((k+1)*256)=D.img.take (k*256)++bs):=by rw [jq];show _=_;rw [cut,zLH,List.take_add]
   have HO:Hid ((wr.alloc (.cells (bvs bs).toArray 95)).ownsRow 0 5 1 (.slice va (k*256) vc) (k*256) (bvs (D.img.take (k*256)))):=HR.out.1.alloc _;have HN:=Lib.hid (yEf wr (bvs bs) 95);clear jq hokl
   go_upto_region 5 with (first|((with_reducible refine wpList_load_mid ?_ 95 (.tmp 20) ?_ pd (k*256) ?_ (bvs bs) _ HRg.out underlying95 rfl (by rw [yCa,yBg,Hbl.out]) ?_);(rfl);(rfl);(rfl))|((with_reducible refine yBG ?_ 95 (.tmp 5) (.tmp 21) ?_ _ (bvs bs).toArray _ ?_ ?_ (by rw [zeroCells95_size,List.size_toArray,yBg,Hbl.out]) (by rw [yCa,List.size_toArray,yBg,Hbl.out]) (yMp _) ?_);(rfl);(rfl);(rfl);(rfl)))
   go_frame
   go_upto_region 6 with ((with_reducible refine yEX ?_ (.tmp 22) (.tmp 23) 69 5 ?_ underlying69 1 1 yLF zO (.slice va (k*256) vc) (k*256) (bvs (D.img.take (k*256))) ?_ HO.out wr.heap.size 0 256 256 (bvs bs) ?_ (by rw [yBg,Hbl.out]) HN.out (yFj _) (by unfold maxLen;omega) zO ?_);(rfl);(rfl);(rfl);(rfl);(intro v2 w2 hw2))
   go_wp2
   go_roundw
   case rel=>
    obtain ⟨h1,h2,h3⟩:=hw2;refine ⟨k+1,zO,by go_num,?_,?_,?_,?_⟩
    ·rw [zLH];exact yHL h1
    ·rw [Htk.out,yRC,zLH];exact h1
    ·exact (HR.out.2.1.alloc _).grown h2 (fun g hg=>.inr (HR.out.2.2 g hg))
    ·intro g hg;have:=HR.out.2.1.size;rcases h3 with h3|h3
     ·rw [h3] at hg;exact HR.out.2.2 g hg
     ·rw [h3] at hg;simp at hg;omega
   case measure=>simp [intOf];omega
  ·have dv:k=D.n:=by omega
   have n1:=HI.out.2.n1;subst dv;obtain ⟨g,cap,hv,_,hg⟩:=yTo HR.out.1 zO;cases hv;have Hg:Hid (wr.rangeAt g 0 (bvs D.img)):=by have e:D.img.take (D.n*256)=D.img:=zLi zO;rw [e] at hg;exact hg
   have Hl:Hid (D.n*256=D.img.length):=by show _=_;omega
   clear hg hokl
   go_wp2_with ((with_reducible refine yDd ?_ 69 9 5 (.tmp 26) ?_ underlying69 underlying5 underlying9 g 0 (D.n*256) vc D.img ?_ Hl.out Hg.out ?_);(rfl);(rfl);(rfl))
   go_ret
   exact ⟨rfl,HR.out.2.1⟩
theorem yRV (m n:Nat) (hm:0<m):(madeCells (bvs (zs m)).toArray n).toList=bvs (zs n):=by
 have e:bvs (zs n)=List.replicate n (bv 0):=by simp [bvs,zs]
 rw [e,List.eq_replicate_iff];refine ⟨by simp [madeCells],fun b hb=>?_⟩;simp only [madeCells,Array.toList_map,Array.toList_range,List.mem_map,List.mem_range,List.size_toArray,yBg,yFY] at hb;obtain ⟨i,_,rfl⟩:=hb;have hlt:i % m<m:=Nat.mod_lt _ hm;have h2:(bvs (zs m))[i % m]? = some (bv 0):=by simp [bvs,zs,hlt]
 simp [Array.getElem!_eq_getD,Array.getD_eq_getD_getElem?,h2]
theorem yPl:(prog.info? 95).map (fun i=>(i.zero.map (·.cells),i.size,i.bytes))=some (some (bvs (zs 256)).toArray,256,256):=zK
theorem yT2 (w:World) (n:Nat) (h1:1≤n) (h2:n≤65536) (hg:gB≤w.heap.size) :Calls prog 22 #[zi n] w fun e w'=>∃ p F,e=.returned (zPp p)∧DiskAt w' F p (Dsk.blank n)∧Fr noB w w'∧∀ k,F k→w.heap.size≤k:=by
 have hmm:=@run_makeMap prog;have Hg:=Lib.hid hg;clear hg
 go_enter func22,ntmps22
 go_wp2_with (first|((with_reducible refine yJq ?_ (.tmp 3) (.tmp 3) 89 95 ?_ underlying89 256 256 (bvs (zs 256)).toArray yPl (n:Int) n ?_ ?_ rfl zO (by unfold maxLen;omega) ?_);(rfl);(rfl);(rfl);(rfl);(intro w1 cU)))
 go_ret
 obtain ⟨hb,iD⟩:=cU;rw [yRV 256 _ zO] at hb;have sz:w.heap.size<w1.heap.size:=hb.lt;refine ⟨w1.heap.size+1,fun k=>w.heap.size≤k∧k<w1.heap.size+2,rfl,⟨w.heap.size,w1.heap.size,.slice none 0 0,?_,?_,World.ownsRow_nil _ _ _ _,?_,⟨⟨zO,zO⟩,⟨zO,zO⟩,⟨zO,zO⟩,fun g hg=>by simp [Value.ownBlock] at hg⟩,fun k hk=>⟨by have:=Hg.out;omega,by simp;omega⟩,Dsk.blank_ok n h1 h2⟩,?_,fun k hk=>hk.1⟩
 ·have:=heap_alloc_new (w1.alloc (.map #[] 0)) (.cells #[.slice (some ⟨w.heap.size,0,none⟩) n n,.slice none 0 0,.map (some w1.heap.size),.bool false,zi (-1),zi 0,zi 0,zi 0] 93);simpa [Blk,Dsk.blank] using this
 ·have e:Blk w1 w.heap.size (bvs (Dsk.blank n).img) 95:=by show Blk w1 w.heap.size (bvs (zs (256*n))) _;rw [Nat.mul_comm];exact hb
  exact e.keep ((Below.heap_alloc _ _ _ (by simp;omega)).trans (Below.heap_alloc _ _ _ sz))
 ·refine ⟨.map [],((World.ownsMap_made w1 _ _ _).alloc _).mono (zLA _),fun i=>⟨rfl,rfl⟩⟩
 ·exact (((Fr.refl noB w).grown iD (fun k hk=>by cases hk)).alloc _).alloc _
theorem xBq (w:World) (n:Nat) (h1:1≤n) (h2:n≤65536) (hg:gB≤w.heap.size) :Calls prog 5 #[zi n] w fun e w'=>∃ p F,e=.returned (.tuple #[zPp p,.nilIface])∧DiskAt w' F p (Dsk.blank n)∧Fr noB w w'∧∀ k,F k→w.heap.size≤k:=by
 have HB:=Lib.hid (yT2 w n h1 h2 hg);clear hg
 go_enter func5,ntmps5
 go_wp2_with (go_at_call 22;refine HB.out.mono ?_;rintro e w1 ⟨p,F,rfl,hq⟩;have Hq:=Lib.hid hq;clear hq)
 all_goals go_ret2
 all_goals exact ⟨p,F,rfl,Hq.out⟩
theorem Flushing.laid {w wr:World} {F:Nat→Prop} {p pd pm:Nat} {uv:Value} {D:Dsk} {img kS:zB} (h:Flushing w F p pd pm uv D img wr) (hF:F pd) :Flushing w F p pd pm uv D kS (wr.drew.setRow pd (bvs kS).toArray):=by
 obtain ⟨hp,hpd,hu,hm,fr⟩:=h;have n1:p≠pd:=hp.ne hpd zX;have n3:pm≠pd:=by obtain ⟨_,⟨_,_,h,_⟩,_⟩:=hm;exact hpd.ne_map h
 have k:∀ i,i≠pd→(wr.drew.setRow pd (bvs kS).toArray).heap[i]? = wr.heap[i]?:=fun i h2=>setRow_other _ _ _ _ h2;have kK:Blk wr.drew pd (bvs img) 95:=hpd;exact ⟨hp.keep (k p n1),kK.row _,yCO hu (fun g hg=>k g (hpd.ne_row hu hg zX)),hm.keep (k pm n3),(fr.drew).setRow (.inl hF) _⟩
def part (l:zB) (n k:Nat):zB:=l.take (k*256)++zs (n*256-k*256)
structure ErrsAt (w:World) (E:Nat→Addr):Prop where
 at_:∀ k,1≤k→k≤37→ErrAt w E k
 obj:∀ k,1≤k→k≤37→∃ ca ta,w.heap[(E k).block]? = some (.cells ca ta (0,0))
 inj:∀ j k,1≤j→j≤37→1≤k→k≤37→E j=E k→j=k
def yEP (E:Nat→Addr):List Value:=[yAy E 1,yAy E 2,yAy E 3,yAy E 4,yAy E 5,yAy E 6,yAy E 7,yAy E 8,yAy E 9,yAy E 10,yAy E 11,yAy E 12,yAy E 13,yAy E 14,yAy E 15,yAy E 16,yAy E 17,yAy E 18,yAy E 19,yAy E 20,yAy E 21,yAy E 22,yAy E 23,yAy E 24,yAy E 25,yAy E 26,yAy E 27,yAy E 28,yAy E 29,yAy E 30,yAy E 31,yAy E 32,yAy E 33,yAy E 34,yAy E 35,yAy E 36,yAy E 37]
theorem yRW (E:Nat→Addr):prog.built 110 [(0,yAy E 1),(1,yAy E 2),(2,yAy E 3),(3,yAy E 4),(4,yAy E 5),(5,yAy E 6),(6,yAy E 7),(7,yAy E 8),(8,yAy E 9),(9,yAy E 10),(10,yAy E 11),(11,yAy E 12),(12,yAy E 13),(13,yAy E 14),(14,yAy E 15),(15,yAy E 16),(16,yAy E 17),(17,yAy E 18),(18,yAy E 19),(19,yAy E 20),(20,yAy E 21),(21,yAy E 22),(22,yAy E 23),(23,yAy E 24),(24,yAy E 25),(25,yAy E 26),(26,yAy E 27),(27,yAy E 28),(28,yAy E 29),(29,yAy E 30),(30,yAy E 31),(31,yAy E 32),(32,yAy E 33),(33,yAy E 34),(34,yAy E 35),(35,yAy E 36),(36,yAy E 37)]=some (yEP E).toArray:=zK
theorem yPm (E:Nat→Addr):(yEP E).toArray.all (·.oneCell')=true:=zK
theorem yWT (w:World) (E:Nat→Addr) (h:∀ k,1≤k→k≤37→ErrAt w E k) (hg:gB≤w.heap.size) :Calls prog 55 #[] w fun e w'=>e=.returned (.agg (yEP E).toArray)∧Fr noB w w':=by
 unfold gB at hg;have e1:w.cell? ⟨9,0,none⟩=some (yAy E 1):=h 1 zO zO;have l1:9<w.heap.size:=zO;have e2:w.cell? ⟨10,0,none⟩=some (yAy E 2):=h 2 zO zO;have l2:10<w.heap.size:=zO;have e3:w.cell? ⟨11,0,none⟩=some (yAy E 3):=h 3 zO zO;have l3:11<w.heap.size:=zO;have e4:w.cell? ⟨12,0,none⟩=some (yAy E 4):=h 4 zO zO;have l4:12<w.heap.size:=zO;have e5:w.cell? ⟨13,0,none⟩=some (yAy E 5):=h 5 zO zO;have l5:13<w.heap.size:=zO;have e6:w.cell? ⟨0,0,none⟩=some (yAy E 6):=h 6 zO zO;have l6:0<w.heap.size:=zO;have e7:w.cell? ⟨14,0,none⟩=some (yAy E 7):=h 7 zO zO;have l7:14<w.heap.size:=zO;have e8:w.cell? ⟨15,0,none⟩=some (yAy E 8):=h 8 zO zO;have l8:15<w.heap.size:=zO;have e9:w.cell? ⟨16,0,none⟩=some (yAy E 9):=h 9 zO zO;have l9:16<w.heap.size:=zO;have e10:w.cell? ⟨17,0,none⟩=some (yAy E 10):=h 10 zO zO;have l10:17<w.heap.size:=zO;have e11:w.cell? ⟨18,0,none⟩=some (yAy E 11):=h 11 zO zO;have l11:18<w.heap.size:=zO;have dV:w.cell? ⟨2,0,none⟩=some (yAy E 12):=h 12 zO zO;have l12:2<w.heap.size:=zO;have e13:w.cell? ⟨1,0,none⟩=some (yAy E 13):=h 13 zO zO;have l13:1<w.heap.size:=zO;have e14:w.cell? ⟨8,0,none⟩=some (yAy E 14):=h 14 zO zO;have l14:8<w.heap.size:=zO;have dz:w.cell? ⟨6,0,none⟩=some (yAy E 15):=h 15 zO zO;have l15:6<w.heap.size:=zO;have e16:w.cell? ⟨7,0,none⟩=some (yAy E 16):=h 16 zO zO;have l16:7<w.heap.size:=zO;have fX:w.cell? ⟨4,0,none⟩=some (yAy E 17):=h 17 zO zO;have l17:4<w.heap.size:=zO;have e18:w.cell? ⟨5,0,none⟩=some (yAy E 18):=h 18 zO zO;have l18:5<w.heap.size:=zO;have e19:w.cell? ⟨19,0,none⟩=some (yAy E 19):=h 19 zO zO;have l19:19<w.heap.size:=zO;have e20:w.cell? ⟨20,0,none⟩=some (yAy E 20):=h 20 zO zO;have l20:20<w.heap.size:=zO;have e21:w.cell? ⟨3,0,none⟩=some (yAy E 21):=h 21 zO zO;have l21:3<w.heap.size:=zO;have e22:w.cell? ⟨21,0,none⟩=some (yAy E 22):=h 22 zO zO;have l22:21<w.heap.size:=zO;have e23:w.cell? ⟨22,0,none⟩=some (yAy E 23):=h 23 zO zO;have l23:22<w.heap.size:=zO;have e24:w.cell? ⟨23,0,none⟩=some (yAy E 24):=h 24 zO zO;have l24:23<w.heap.size:=zO;have e25:w.cell? ⟨24,0,none⟩=some (yAy E 25):=h 25 zO zO;have l25:24<w.heap.size:=zO;have e26:w.cell? ⟨25,0,none⟩=some (yAy E 26):=h 26 zO zO;have l26:25<w.heap.size:=zO;have e27:w.cell? ⟨26,0,none⟩=some (yAy E 27):=h 27 zO zO;have l27:26<w.heap.size:=zO;have e28:w.cell? ⟨27,0,none⟩=some (yAy E 28):=h 28 zO zO;have l28:27<w.heap.size:=zO;have e29:w.cell? ⟨28,0,none⟩=some (yAy E 29):=h 29 zO zO;have l29:28<w.heap.size:=zO;have e30:w.cell? ⟨29,0,none⟩=some (yAy E 30):=h 30 zO zO;have l30:29<w.heap.size:=zO;have e31:w.cell? ⟨30,0,none⟩=some (yAy E 31):=h 31 zO zO;have l31:30<w.heap.size:=zO;have e32:w.cell? ⟨31,0,none⟩=some (yAy E 32):=h 32 zO zO;have l32:31<w.heap.size:=zO;have e33:w.cell? ⟨32,0,none⟩=some (yAy E 33):=h 33 zO zO;have l33:32<w.heap.size:=zO;have e34:w.cell? ⟨33,0,none⟩=some (yAy E 34):=h 34 zO zO;have l34:33<w.heap.size:=zO;have e35:w.cell? ⟨34,0,none⟩=some (yAy E 35):=h 35 zO zO;have l35:34<w.heap.size:=zO;have e36:w.cell? ⟨35,0,none⟩=some (yAy E 36):=h 36 zO zO;have l36:35<w.heap.size:=zO;have e37:w.cell? ⟨36,0,none⟩=some (yAy E 37):=h 37 zO zO;have l37:36<w.heap.size:=zO;clear h hg
 go_enter func55,ntmps55
 go_wp2_with (first|((with_reducible refine yBG ?_ 110 (.tmp 0) (.tmp 38) ?_ _ (yEP E).toArray _ ?_ ?_ rfl zK (yPm E) ?_);(rfl);(rfl);(rfl);(rfl))|((with_reducible refine yFZ ?_ 110 [(0,.tmp 1),(1,.tmp 2),(2,.tmp 3),(3,.tmp 4),(4,.tmp 5),(5,.tmp 6),(6,.tmp 7),(7,.tmp 8),(8,.tmp 9),(9,.tmp 10),(10,.tmp 11),(11,.tmp 12),(12,.tmp 13),(13,.tmp 14),(14,.tmp 15),(15,.tmp 16),(16,.tmp 17),(17,.tmp 18),(18,.tmp 19),(19,.tmp 20),(20,.tmp 21),(21,.tmp 22),(22,.tmp 23),(23,.tmp 24),(24,.tmp 25),(25,.tmp 26),(26,.tmp 27),(27,.tmp 28),(28,.tmp 29),(29,.tmp 30),(30,.tmp 31),(31,.tmp 32),(32,.tmp 33),(33,.tmp 34),(34,.tmp 35),(35,.tmp 36),(36,.tmp 37)] ?_ (yEP E).toArray ?_ ?_);(rfl);(rfl);(exact yRW E)))
 try go_frame
 exact bodyPost_ret (v:=.agg (yEP E).toArray) (results_cell_row (p:=0) (ty:=110) zK _ _ w.heap.size _ _ _ _ rfl (heap_alloc_new w _) underlying110 rfl zK) rfl ⟨rfl,(Fr.refl _ _).alloc _⟩
theorem yD3 (E:Nat→Addr) (k:Nat) (hk:1≤k):yAy E k=.iface 303 (.pointer (some (E k))):=by unfold yAy;rw [if_neg zO]
theorem yJ2 (E:Nat→Addr) (j:Nat) (hj:j<37):(yEP E)[j]? = some (.iface 303 (.pointer (some (E (j+1))))):=by have e:yEP E=(List.range 37).map (fun i=>yAy E (i+1)):=rfl;rw [e,zLE,List.getElem?_range hj,Option.map_some,yD3 _ _ zO]
theorem yJ3 (w:World):(isAgg 27).run prog w=.ok false w:=zK
theorem yHM {P:Program} {α:Type} {t:TypeId} {f:TypeInfo→α} {x:α} (h:(P.info? t).map f=some x):∃ i,P.info? t=some i∧f i=x:=by
 cases hq:P.info? t with
 |none=>simp [hq] at h
 |some i=>exact ⟨i,rfl,by simpa [hq] using h⟩
theorem yT3:(prog.info? 303).map (·.comparable)=some true:=zK
theorem yQA:(prog.info? 319).map (·.size)=some 1:=zK
theorem yQB (w:World) (b:Addr):(binOp .eql 27 (.iface 303 (.pointer (some b))) (.iface 303 (.pointer (some b)))).run prog w=.ok (.bool true) w:=by obtain ⟨i,hi,hc⟩:=yHM yT3;obtain ⟨j,hj,_⟩:=yHM yQA;exact run_eql_iface_ptr_same w _ underlying27 underlying303 hi hc hj
theorem yNI (w:World) (b c:Addr) (ao:b≠c) {ca cb:Array Value} {ta tb:TypeId} (hb:w.heap[b.block]? = some (.cells ca ta (0,0))) (iP:w.heap[c.block]? = some (.cells cb tb (0,0))) :(binOp .eql 27 (.iface 303 (.pointer (some b))) (.iface 303 (.pointer (some c)))).run prog w=.ok (.bool false) w:=by
 obtain ⟨i,hi,hc⟩:=yHM yT3;obtain ⟨j,hj,hz⟩:=yHM yQA;exact run_eql_iface_ptr_other w underlying27 underlying303 hi hc hj (by rw [hz];decide) ao hb iP
theorem yZA (w:World):Calls prog 15 #[.nilIface] w fun e w'=>e=.returned (zi 0)∧w=w':=by
 go_enter func15,ntmps15
 go_wp2
 go_ret
 exact ⟨rfl,rfl⟩
theorem yZB (w:World) (E:Nat→Addr) (hE:ErrsAt w E) (hg:gB≤w.heap.size) (k:Nat) (h1:1≤k) (h2:k≤37) :Calls prog 15 #[.iface 303 (.pointer (some (E k)))] w fun e w'=>e=.returned (zi k)∧Fr noB w w':=by
 have HL:=Lib.hid (yWT w E hE.at_ hg);have HE:=Lib.hid hE;clear hE hg
 go_enter func15,ntmps15
 go_wp2_with (go_at_call 55;refine HL.out.mono ?_;rintro e w1 ⟨rfl,hf⟩;have Hf:=Lib.hid hf;clear hf)
 go_loopw [8] (fun x wr=>∃ j:Nat,j<k∧x=.int .i64 j∧wr=w1) (fun x _=>k-(intOf x).toNat)
 case atStart=>exact ⟨0,zO,rfl,rfl⟩
 case round=>
  obtain ⟨j,hj,rfl,rfl⟩:=hrel;by_cases ij:j+1=k
  ·subst ij;have he:=yQB wr (E (j+1))
   go_wp2_with (first|((with_reducible refine yEY ?_ 110 27 (.tmp 7) (.tmp 8) ?_ 37 underlying110 (yJ3 _) zK (yEP E) j ?_ ?_ zO _ (yJ2 E j zO) ?_);(rfl);(rfl);(rfl);(rfl)))
   go_ret
   exact ⟨rfl,Hf.out⟩
  ·have ao:E k≠E (j+1):=fun e=>ij (HE.out.inj _ _ zO zO h1 h2 e.symm);obtain ⟨ca,ta,ha⟩:=HE.out.obj k h1 h2;obtain ⟨cb,tb,hb⟩:=HE.out.obj (j+1) zO zO;have bi:=(Hf.out.block _ (zLh.1 ha).1 id).trans ha;have bU:=(Hf.out.block _ (zLh.1 hb).1 id).trans hb;have he:=yNI wr (E k) (E (j+1)) ao bi bU;clear ha hb bi bU ao
   go_wp2_with (first|((with_reducible refine yEY ?_ 110 27 (.tmp 7) (.tmp 8) ?_ 37 underlying110 (yJ3 _) zK (yEP E) j ?_ ?_ zO _ (yJ2 E j zO) ?_);(rfl);(rfl);(rfl);(rfl)))
   go_roundw
   case rel=>exact ⟨j+1,zO,by go_num,by first|rfl|trivial⟩
   case measure=>simp [intOf];omega
theorem yZC (w:World) (E:Nat→Addr) (hE:ErrsAt w E) (hg:gB≤w.heap.size) (k:Nat) (h2:k≤37) :Calls prog 15 #[yAy E k] w fun e w'=>e=.returned (zi k)∧Fr noB w w':=by
 by_cases h:k=0
 ·subst h;refine (yZA w).mono ?_
  rintro e w' ⟨rfl,rfl⟩
  exact ⟨rfl,Fr.refl _ _⟩
 ·rw [yD3 _ _ zO];exact yZB w E hE hg k zO h2
def xBr (fill:UInt8):zB:=(List.range 256).map fun i=>fill+UInt8.ofNat (i / 16)
def xCO (s:zB) (fill:UInt8):zB:=if s=[] then xBr fill else s
structure POp where
 kind:Int
 i:Int
 s:zB
 fill:UInt8
 kept:List Bool
 torn:Int
 bytes:Int
def POp.cells (o:POp) (kv:Value):List Value:=[zi o.kind,zi o.i,.string ⟨o.s.toArray⟩,.int .u8 o.fill.toNat,kv,zi o.torn,zi o.bytes]
def POp.sec (o:POp):zB:=xCO o.s o.fill
theorem yRX {w w':World} {b o:Nat} {cs:List Value} (h:w.rangeAt b o cs) (e:w'.heap[b]? = w.heap[b]?):w'.rangeAt b o cs:=by intro j v hj;have:=h j v hj;unfold World.cell? at this ⊢;rw [show (⟨b,o+j,none⟩:Addr).block=b from rfl] at this ⊢;rw [e];exact this
theorem BoolsAt.keepB {w w':World} {kv:Value} {l:List Bool} (h:BoolsAt w kv l) (hs:w.heap.size≤w'.heap.size) (hk:∀ g,g<w.heap.size→w'.heap[g]? = w.heap[g]?):BoolsAt w' kv l:=by obtain ⟨a,c,rfl,h1,h2,h3⟩:=h;refine ⟨a,c,rfl,fun hl=>?_,h2,h3⟩;obtain ⟨b,o,rfl,hb,hr⟩:=h1 hl;exact ⟨b,o,rfl,zO,yRX hr (hk b hb)⟩
theorem ErrsAt.keepB {w w':World} {E:Nat→Addr} (h:ErrsAt w E) (hs:w.heap.size≤w'.heap.size) (hk:∀ g,g<w.heap.size→w'.heap[g]? = w.heap[g]?):ErrsAt w' E:=by
 have _:=hs;refine ⟨fun k h1 h2=>?_,fun k h1 h2=>?_,h.inj⟩
 ·have h3:=h.at_ k h1 h2;unfold ErrAt at h3 ⊢;have hb:=block_lt_of_cell h3;rw [World.cell?_of_block (w:=w) (hk _ hb)];exact h3
 ·obtain ⟨ca,ta,h3⟩:=h.obj k h1 h2;exact ⟨ca,ta,(hk _ (zLh.1 h3).1).trans h3⟩
def POp.make (n:Nat) (o:POp) (D:Dsk):Dsk:=
 if o.kind=1 then D.writeD (((o.i % 18446744073709551616).toNat % n:Nat):Int) o.sec
 else if o.kind=2 then D.flushD
 else if o.kind=4 then D.crash o.kept o.torn o.bytes
 else D
end Go.Proofs.YtoipmnikdiogcaaGreatDoor
