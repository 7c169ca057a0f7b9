/-
  TxN0, TxN1.
-/
import Derived.Test.YtgipenahkmbelaaGreatDoorTEX
import Derived.Test.YtgipenahkmbelaaGreatDoorTFZ
import Derived.Test.YtgipenahkmbelaaGreatDoorTFL
set_option maxHeartbeats 64000000
namespace Go.Proofs.YtgipenahkmbelaaGreatDoor
open Go Go.RowKit
abbrev plTFM0:Pl:=(.op 0 (.op 1 (.op 2 (.op 3 (.op 4 (.alt (.ef 5 [] (.op 6 (.op 7 (.op 8 (.alt (.ef 9 [8,7,6] (.ef 10 [8,7,6] (.ef 11 [8] (.ef 12 [] .nil)))) (.ef 10 [8,7,6] (.ef 9 [8,7,6] (.ef 11 [8] (.ef 12 [] .nil))))))))) (.alt (.ef 9 [4,3,2,1,0] (.alt (.ef 5 [] (.op 6 (.op 7 (.op 8 (.ef 10 [8,7,6] (.ef 11 [8] (.ef 12 [] .nil))))))) (.ef 10 [4,3,2,1,0] (.ef 5 [] (.op 6 (.op 7 (.op 8 (.ef 11 [8] (.ef 12 [] .nil))))))))) (.ef 10 [4,3,2,1,0] (.alt (.ef 5 [] (.op 6 (.op 7 (.op 8 (.ef 9 [8,7,6] (.ef 11 [8] (.ef 12 [] .nil))))))) (.ef 9 [4,3,2,1,0] (.ef 5 [] (.op 6 (.op 7 (.op 8 (.ef 11 [8] (.ef 12 [] .nil))))))))))))))))
abbrev plTFM1:Pl:=(.op 0 (.op 1 (.op 2 (.op 3 (.op 4 (.ef 5 [] .nil))))))
abbrev plTFM2:Pl:=(.op 0 (.op 1 (.op 2 (.op 3 (.op 4 (.op 5 (.ef 6 [4,3,2,1,0] (.ef 7 [0] (.op 8 (.op 9 (.ef 10 [] .nil)))))))))))
abbrev plTFM3:Pl:=(.op 0 (.op 1 (.op 2 (.op 3 (.op 4 (.ef 5 [3,2,1,0] (.ef 6 [] (.op 7 .nil))))))))
def hisB (r0:Rows) (st:List BOp):List Rows:=(List.range st.length).map fun j=>zAf r0 (st.take j)
theorem hisB_next (r0:Rows) (st:List BOp) (o:BOp):hisB r0 (st++[o])=hisB r0 st++[zAf r0 st]:=by
 unfold hisB
 rw [List.length_append,List.length_singleton,List.range_succ,List.map_append]
 congr 1
 ·refine List.map_congr_left fun j hj=>?_
  rw [List.take_append_of_le_length (Nat.le_of_lt (List.mem_range.1 hj))]
 ·show [zAf r0 ((st++[o]).take st.length)]=_
  rw [List.take_left]
theorem applyB_snoc (r0:Rows) (st:List BOp) (o:BOp):zAf r0 (st++[o])=apply1 (zAf r0 st) o:=by
 unfold zAf
 rw [List.foldl_append]
 rfl
theorem hisB_len (r0:Rows) (st:List BOp):(hisB r0 st).length=st.length:=by unfold hisB;simp
theorem hisB_take (r0:Rows) {st:List BOp} {j:Nat} (h:j≤st.length):(hisB r0 st).take j=hisB r0 (st.take j):=by
 unfold hisB
 rw [← List.map_take,List.take_range,List.length_take]
 refine List.map_congr_left fun i hi=>?_
 have hi:=List.mem_range.1 hi
 rw [List.take_take,Nat.min_eq_left (by omega)]
theorem hisB_get (r0:Rows) {st:List BOp} {j:Nat} (h:j<st.length):(hisB r0 st)[j]? = some (zAf r0 (st.take j)):=by
 unfold hisB
 rw [List.getElem?_map,List.getElem?_range h]
 rfl
theorem hisB_at (r0:Rows) {st:List BOp} {j:Nat} (h:j≤st.length):rowAt (hisB r0 st) (zAf r0 st) j=zAf r0 (st.take j):=by
 rcases Nat.lt_or_ge j st.length with h1|h1
 ·unfold rowAt
  rw [List.getElem?_append_left (by rw [hisB_len];exact h1),hisB_get r0 h1]
  rfl
 ·have e:j=(hisB r0 st).length:=by rw [hisB_len];omega
  rw [List.take_of_length_le h1,e]
  exact rowAt_end _ _
theorem hisB_mem {r0:Rows} {st:List BOp} {x:Rows} (h:x ∈ hisB r0 st++[zAf r0 st]):x.length≤r0.length+st.length:=by
 rcases List.mem_append.1 h with h|h
 ·unfold hisB at h
  obtain ⟨j,-,rfl⟩:=List.mem_map.1 h
  have h1:=applyB_len (st.take j) r0
  have h2:(st.take j).length≤st.length:=List.length_take_le' ..
  omega
 ·rw [List.mem_singleton.1 h]
  exact applyB_len st r0
structure PlI (l:Rows) (st:List BOp) (ended:Bool) (n:Nat):Prop where
 ris:RisR l
 stl:st.length≤n
 sum:sumW rowZ l≤8192+100*n
 all:ended=false→sumW rowZ l+sumW opW st≤8192+100*n
theorem PlI.mono {l:Rows} {st:List BOp} {e:Bool} {n m:Nat} (h:PlI l st e n) (hm:n≤m):PlI l st e m:=
 ⟨h.ris,Nat.le_trans h.stl hm,Nat.le_trans h.sum (by omega),fun q=>Nat.le_trans (h.all q) (by omega)⟩
theorem PlI.fin {l:Rows} {st:List BOp} {e:Bool} {n:Nat} (h:PlI l st e n):PlI l st true n:=⟨h.ris,h.stl,h.sum,fun q=>nomatch q⟩
theorem PlI.new {l:Rows} {st:List BOp} {e:Bool} {n:Nat} (h:PlI l st e n):PlI l [] false n:=
 ⟨h.ris,Nat.zero_le _,h.sum,fun _=>by
  have h1:=h.sum
  have e0:sumW opW ([]:List BOp)=0:=rfl
  omega⟩
theorem PlI.start {l:Rows} (h:LightI l):PlI (ofR l) [] false 0:=by
 obtain ⟨h1,h2⟩:=sum_ofR l
 have h3:=h.sum
 have e0:sumW opW ([]:List BOp)=0:=rfl
 exact ⟨h2,Nat.le_refl _,by omega,fun _=>by omega⟩
theorem PlI.cut {l:Rows} {st:List BOp} {n:Nat} (h:PlI l st false n) (j:Nat):PlI l (st.take j) false n:=by
 have h1:=h.all rfl
 have h2:=sumW_take opW st j
 have h3:(st.take j).length≤st.length:=List.length_take_le' ..
 exact ⟨h.ris,Nat.le_trans h3 h.stl,h.sum,fun _=>by omega⟩
theorem PlI.com {l:Rows} {st:List BOp} {n:Nat} (h:PlI l st false n):PlI (zAf l st) st true n:=by
 have h1:=h.all rfl
 have h2:=sum_applyB h.ris st
 exact ⟨applyB_ris h.ris st,h.stl,by omega,fun q=>nomatch q⟩
theorem PlI.step {l:Rows} {st:List BOp} {n w:Nat} (h:PlI l st false n) (o:BOp) (hw:1≤w) (ho:opW o≤100*w):PlI l (st++[o]) false (n+w):=by
 have h1:=h.all rfl
 have h2:=h.sum
 have h3:=h.stl
 refine ⟨h.ris,by rw [List.length_append,List.length_singleton];omega,by omega,fun _=>?_⟩
 rw [sumW_append,sumW_cons]
 have e0:sumW opW ([]:List BOp)=0:=rfl
 omega
theorem rows_half (r:Rows):r.length*2≤sumW rowZ r:=sumW_const fun p _=>by
 unfold rowZ rowB
 rw [List.length_append]
 have h1:=tx_len p.1
 have h2:=tx_len p.2
 omega
theorem PlI.len {l:Rows} {st:List BOp} {e:Bool} {n:Nat} (h:PlI l st e n) (hn:n≤20000):l.length≤1010000∧st.length≤20000:=by
 have h1:=rows_half l
 have h2:=h.sum
 have h3:=h.stl
 omega
theorem PlI.open {l:Rows} {st:List BOp} {n:Nat} (h:PlI l st false n) (hn:n≤20000):(zAf l st).length≤1010000∧(zBd (zAf l st)).length≤2010000∧(zAs l (zAf l st)).length≤20000∧(encAll (zAs l (zAf l st))).length≤2010000:=by
 have h1:=h.all rfl
 have h2:=sum_applyB h.ris st
 have h3:=rows_half (zAf l st)
 have h4:=snap_sum (zAf l st)
 obtain ⟨h5,h6⟩:=between_small h.ris st
 have h7:=enc_sum (zAs l (zAf l st))
 have h8:=h.stl
 have v1:=vu_three (n:=(zAf l st).length) (by omega)
 have v2:=vu_three (n:=(zAs l (zAf l st)).length) (by omega)
 omega
theorem opW_put (k v:List UInt8) (hk:k.length≤65536) (hv:v.length≤65536):opW ⟨false,k,v⟩≤7+k.length+v.length:=by
 have a1:=vu_three (n:=k.length) (by omega)
 have a2:=vu_three (n:=v.length) (by omega)
 unfold opW encOp
 simp only [tx,List.length_cons,List.length_append,Bool.false_eq_true,if_false]
 omega
theorem opW_del (k:List UInt8) (hk:k.length≤65536):opW ⟨true,k,[]⟩≤7+k.length:=by
 have a1:=vu_three (n:=k.length) (by omega)
 unfold opW encOp
 simp only [tx,List.length_cons,List.length_append,if_true]
 omega
theorem heavyW_key {o:TOp} (h:zBa o≤16384):o.key.length+o.val.length+16≤zBa o∧(o.kind=13→o.key.length+416≤zBa o):=by
 unfold zBa at h ⊢
 refine ⟨by omega,fun hk=>?_⟩
 rw [if_pos hk] at h ⊢
 omega
end Go.Proofs.YtgipenahkmbelaaGreatDoor
namespace Go.Proofs.YtgipenahkmbelaaGreatDoor
open Go Go.RowKit
instance fn_rangeN:FnIs Tryz.prog 48:=⟨by kernel_rfl⟩
instance fn_txdelN:FnIs Tryz.prog 12:=⟨by kernel_rfl⟩
instance fn_txdropN:FnIs Tryz.prog 17:=⟨by kernel_rfl⟩
def TxE (M:List Nd) (t s:Nat):SP:=packP 95 t (fun x:Rows × List (List UInt8 × Bool) × List UE=>[TxP M t s x.1 x.2.1 x.2.2 true])
abbrev rngN:Value:=.func (.func 48) #[] #[]
section
variable {W:World} {M:List Nd} {F:Nat→Addr} {r r0:Rows} {Rs:List Rows} {t s m n k:Nat} {K:List (List UInt8 × Bool)} {U:List UE}
theorem TxE.star {R:List SP}:∀ g,zAj (TxP M t s r K U true::R) g→zAj (TxE M t s::R) g:=fun g q=>
 pack_star (F:=fun x:Rows × List (List UInt8 × Bool) × List UE=>[TxP M t s x.1 x.2.1 x.2.2 true]) (r,K,U) g q
theorem stepN_end (hE:ErrsOn L16 W F) (f:FuncId) [FnIs Tryz.prog f] (cs:List Value) (key:List UInt8) :
 Ct Tryz.prog W 37 [.pointer (some ⟨t,0,none⟩),strV key,.func (.func f) #[] cs.toArray] [TxP M t s r K U true] (fun _:Unit=>errV F 19) (fun _=>[TxP M t s r K U true]):=by
 have e19:W.cell? ⟨0,0,none⟩=some (errV F 19):=hE.at_ 19 (by decide)
 refine Ct.enter Tryz.func37 rfl Tryz.ntmps37 (by simp) (fun R=>?_)
 refine KJ.txOpen xS (fun x hT hMx=>?_)
 repeat' (first|(refine zBe ?_;first|(refine zBb (d:=4) rfl xF rfl (fun gk=>?_))|(refine zBb (d:=3) rfl xF rfl (fun gt=>?_)))|(refine zAm ?_;refine zAb (zAt rfl e19) ?_)|refine xst ?_|(refine xsa ?_;intro _)|(refine xsb ?_ ?_ <;>intro _<;>try (exfalso;omega))|refine xsc ?_|(refine zAa (id:=3) plTFM0 (by kernel_rfl) (by kernel_rfl) ?_)|(refine zAa (id:=4) plTFM1 (by kernel_rfl) (by kernel_rfl) ?_)|(refine zAa (id:=5) plTFM2 (by kernel_rfl) (by kernel_rfl) ?_)|refine zAp ?_ ?_|refine zAn rfl rfl rfl rfl rfl ?_ ?_|refine zAg ?_ ?_|exact Rech.nil|fail)
 all_goals refine KJ.txShut (s:=s) (K:=K) (U:=U) (ended:=true) x hT hMx xP ?_
 all_goals (exact xdn ())
theorem txputN_end (hE:ErrsOn L16 W F) (key val:List UInt8) :
 Ct Tryz.prog W 11 [.pointer (some ⟨t,0,none⟩),strV key,strV val] [TxE M t s] (fun _:Unit=>errV F 19) (fun _=>[TxE M t s]):=by
 refine zBm (Hs:=[]) fun ⟨r,K,U⟩=>?_
 dsimp only
 have cs:=fun cs=>stepN_end (W:=W) (M:=M) (t:=t) (s:=s) (r:=r) (K:=K) (U:=U) hE 38 cs key
 refine Ct.to (X:=Unit) (H':=fun _=>[TxP M t s r K U true]) ?_ id (fun _=>rfl) (fun _ R g q=>TxE.star g q)
 refine Ct.enter Tryz.func11 rfl Tryz.ntmps11 (by simp) (fun R=>?_)
 repeat' (first|(refine zBe ?_;first|(refine zBb (d:=5) rfl xF rfl (fun g5=>?_))|(refine zBb (d:=4) rfl xF rfl (fun g4=>?_))|(refine zBb (d:=3) rfl xF rfl (fun g3=>?_)))|(refine zAd ?_;refine zAc xE (cs [.pointer (some ⟨g3,0,none⟩),.pointer (some ⟨g4,0,none⟩),.pointer (some ⟨g5,0,none⟩)]) xP rfl (fun z=>?_))|(refine ek_mkFunc ?_;refine zAb (Ev_mkFunc3 rfl rfl rfl) ?_)|refine xst ?_|(refine xsa ?_;intro _)|(refine xsb ?_ ?_ <;>intro _<;>try (exfalso;omega))|refine xsc ?_|fail)
 all_goals (exact xdn ())
theorem txdelN_end (hE:ErrsOn L16 W F) (key:List UInt8) :
 Ct Tryz.prog W 12 [.pointer (some ⟨t,0,none⟩),strV key] [TxE M t s] (fun _:Unit=>errV F 19) (fun _=>[TxE M t s]):=by
 refine zBm (Hs:=[]) fun ⟨r,K,U⟩=>?_
 dsimp only
 have cs:=fun cs=>stepN_end (W:=W) (M:=M) (t:=t) (s:=s) (r:=r) (K:=K) (U:=U) hE 40 cs key
 refine Ct.to (X:=Unit) (H':=fun _=>[TxP M t s r K U true]) ?_ id (fun _=>rfl) (fun _ R g q=>TxE.star g q)
 refine Ct.enter Tryz.func12 rfl Tryz.ntmps12 (by simp) (fun R=>?_)
 repeat' (first|(refine zBe ?_;first|(refine zBb (d:=3) rfl xF rfl (fun g4=>?_))|(refine zBb (d:=2) rfl xF rfl (fun g3=>?_)))|(refine zAd ?_;refine zAc xE (cs [.pointer (some ⟨g3,0,none⟩),.pointer (some ⟨g4,0,none⟩)]) xP rfl (fun z=>?_))|(refine ek_mkFunc ?_;refine zAb (Ev_mkFunc2 rfl rfl) ?_)|refine xst ?_|(refine xsa ?_;intro _)|(refine xsb ?_ ?_ <;>intro _<;>try (exfalso;omega))|refine xsc ?_|fail)
 all_goals (exact xdn ())
theorem txgetN_end (key:List UInt8):Ct Tryz.prog W 14 [.pointer (some ⟨t,0,none⟩),strV key] [TxE M t s] (fun _:Unit=>.tuple #[strV [],.bool false]) (fun _=>[TxE M t s]):=by
 refine zBm (Hs:=[]) fun ⟨r,K,U⟩=>?_
 exact (txget_end (W:=W) key).to id (fun _=>rfl) (fun _ R g q=>TxE.star g q)
theorem txmarkN_end:Ct Tryz.prog W 15 [.pointer (some ⟨t,0,none⟩)] [TxE M t s] (fun _:Unit=>.int .i64 0) (fun _=>[TxE M t s]):=by
 refine zBm (Hs:=[]) fun ⟨r,K,U⟩=>?_
 exact (txmarkE (W:=W)).to id (fun _=>rfl) (fun _ R g q=>TxE.star g q)
theorem txdropN_end:Ct Tryz.prog W 17 [.pointer (some ⟨t,0,none⟩)] [TxE M t s] (fun _:Unit=>.tuple #[]) (fun _=>[TxE M t s]):=by
 refine zBm (Hs:=[]) fun ⟨r,K,U⟩=>?_
 exact (txdrop_ct (W:=W)).to id (fun _=>rfl) (fun _ R g q=>TxE.star g q)
theorem txdropN:Ct Tryz.prog W 17 [.pointer (some ⟨t,0,none⟩)] [TxBM M t s r0 Rs r m] (fun _:Unit=>.tuple #[]) (fun _=>[TxE M t s]):=by
 refine zBm (Hs:=[]) fun ⟨(K,U),hU⟩=>?_
 exact (txdrop_ct (W:=W)).to id (fun _=>rfl) (fun _ R g q=>TxE.star g q)
theorem txbackN_end (hE:ErrsOn L16 W F) (j:Int):Ct Tryz.prog W 51 [.pointer (some ⟨t,0,none⟩),.int .i64 j] [TxE M t s] (fun _:Unit=>errV F 19) (fun _=>[TxE M t s]):=by
 have e19:W.cell? ⟨0,0,none⟩=some (errV F 19):=hE.at_ 19 (by decide)
 refine zBm (Hs:=[]) fun ⟨r,K,U⟩=>?_
 refine Ct.to (X:=Unit) (H':=fun _=>[TxP M t s r K U true]) ?_ id (fun _=>rfl) (fun _ R g q=>TxE.star g q)
 refine Ct.enter Tryz.func51 rfl Tryz.ntmps51 (by simp) (fun R=>?_)
 refine KJ.txOpen xS (fun x hT hMx=>?_)
 repeat' (first|(refine zAm ?_;refine zAb (zAt rfl e19) ?_)|refine xst ?_|(refine xsa ?_;intro _)|(refine xsb ?_ ?_ <;>intro _<;>try (exfalso;omega))|refine xsc ?_|fail)
 all_goals refine KJ.txShut (s:=s) (K:=K) (U:=U) (ended:=true) x hT hMx xP ?_
 all_goals (exact xdn ())
theorem txbackN_bad (hE:ErrsOn L16 W F) (j:Int) (hj:j<0∨(Rs.length:Int)<j):Ct Tryz.prog W 51 [.pointer (some ⟨t,0,none⟩),.int .i64 j] [TxBM M t s r0 Rs r m] (fun _:Unit=>errV F 6) (fun _=>[TxBM M t s r0 Rs r m]):=by
 have e6:W.cell? ⟨1,0,none⟩=some (errV F 6):=hE.at_ 6 (by decide)
 refine zBm (Hs:=[]) fun ⟨(K,U),hU⟩=>?_
 dsimp only at hU ⊢
 have hul:=hU.ul
 refine Ct.to (X:=Unit) (H':=fun _=>[TxP M t s r K U false]) ?_ id (fun _=>rfl) (fun _ R g q=>TxB.star hU g q)
 refine Ct.enter Tryz.func51 rfl Tryz.ntmps51 (by simp) (fun R=>?_)
 refine KJ.txOpen xS (fun x hT hMx=>?_)
 by_cases h0:j<0
 ·have q1:decide (j<0)=true:=decide_eq_true h0
  repeat' (first|(refine zAm ?_;refine zAb (zAt rfl e6) ?_)|(refine zAq ?_;refine zAb (zAe rfl rfl q1) ?_)|refine xst ?_|(refine xsa ?_;intro _)|(refine xsb ?_ ?_ <;>intro _<;>try (exfalso;omega))|refine xsc ?_|fail)
  all_goals refine KJ.txShut (s:=s) (K:=K) (U:=U) (ended:=false) x hT hMx xP ?_
  all_goals (exact xdn ())
 ·have q1:decide (j<0)=false:=decide_eq_false h0
  have q2:decide (((U.length:Nat):Int)<j)=true:=decide_eq_true (by omega)
  repeat' (first|(refine zAm ?_;refine zAb (zAt rfl e6) ?_)|(refine zAq ?_;refine zAb (zAe rfl rfl q1) ?_)|(refine zBf ?_;refine zAb (zAk rfl rfl q2) ?_)|refine xst ?_|(refine xsa ?_;intro _)|(refine xsb ?_ ?_ <;>intro _<;>try (exfalso;omega))|refine xsc ?_|fail)
  all_goals refine KJ.txShut (s:=s) (K:=K) (U:=U) (ended:=false) x hT hMx xP ?_
  all_goals (exact xdn ())
theorem txopsN_end:Ct Tryz.prog W 13 [.pointer (some ⟨t,0,none⟩)] [TxE M t s] (fun _:Unit=>.slice none 0 0) (fun _=>[TxE M t s]):=by
 refine zBm (Hs:=[]) fun ⟨r,K,U⟩=>?_
 refine Ct.to (X:=Unit) (H':=fun _=>[TxP M t s r K U true]) ?_ id (fun _=>rfl) (fun _ R g q=>TxE.star g q)
 refine Ct.enter Tryz.func13 rfl Tryz.ntmps13 (by simp) (fun R=>?_)
 refine KJ.txOpen xS (fun x hT hMx=>?_)
 repeat' (first|refine xst ?_|(refine xsa ?_;intro _)|(refine xsb ?_ ?_ <;>intro _<;>try (exfalso;omega))|refine xsc ?_|fail)
 all_goals refine KJ.txShut (s:=s) (K:=K) (U:=U) (ended:=true) x hT hMx xP ?_
 all_goals (exact xdn ())
theorem txsizeN_end:Ct Tryz.prog W 28 [.pointer (some ⟨t,0,none⟩)] [TxE M t s] (fun _:Unit=>.int .i64 0) (fun _=>[TxE M t s]):=by
 refine zBm (Hs:=[]) fun ⟨r,K,U⟩=>?_
 refine Ct.to (X:=Unit) (H':=fun _=>[TxP M t s r K U true]) ?_ id (fun _=>rfl) (fun _ R g q=>TxE.star g q)
 refine Ct.enter Tryz.func28 rfl Tryz.ntmps28 (by simp) (fun R=>?_)
 refine KJ.txOpen xS (fun x hT hMx=>?_)
 repeat' (first|refine xst ?_|(refine xsa ?_;intro _)|(refine xsb ?_ ?_ <;>intro _<;>try (exfalso;omega))|refine xsc ?_|(refine zAa (id:=3) plTFM3 (by kernel_rfl) (by kernel_rfl) ?_)|refine zAp ?_ ?_|refine zAn rfl rfl rfl rfl rfl ?_ ?_|refine zAg ?_ ?_|exact Rech.nil|fail)
 all_goals refine KJ.txShut (s:=s) (K:=K) (U:=U) (ended:=true) x hT hMx xP ?_
 all_goals (exact xdn ())
theorem txcommitN_end (hE:ErrsOn L16 W F):Ct Tryz.prog W 55 [.pointer (some ⟨t,0,none⟩)] [TxE M t s] (fun _:Unit=>errV F 19) (fun _=>[TxE M t s]):=by
 have e19:W.cell? ⟨0,0,none⟩=some (errV F 19):=hE.at_ 19 (by decide)
 refine zBm (Hs:=[]) fun ⟨r,K,U⟩=>?_
 refine Ct.to (X:=Unit) (H':=fun _=>[TxP M t s r K U true]) ?_ id (fun _=>rfl) (fun _ R g q=>TxE.star g q)
 refine Ct.enter Tryz.func55 rfl Tryz.ntmps55 (by simp) (fun R=>?_)
 refine KJ.txOpen xS (fun x hT hMx=>?_)
 repeat' (first|(refine zAm ?_;refine zAb (zAt rfl e19) ?_)|refine xst ?_|(refine xsa ?_;intro _)|(refine xsb ?_ ?_ <;>intro _<;>try (exfalso;omega))|refine xsc ?_|fail)
 all_goals refine KJ.txShut (s:=s) (K:=K) (U:=U) (ended:=true) x hT hMx xP ?_
 all_goals (exact xdn ())
theorem txcommitN (hE:ErrsOn L16 W F) (hE8:ErrsOn L8 W F) (hN:NibAt W) (h1:64≤n) (h2:n≤4096) (hk:k+1≤1099511627776) (hm:m≤100000000) (h0:RisR r0) (hl:r0.length≤100000000) (hbl:(zAs r0 r).length≤100000000) (hb:(encAll (zAs r0 r)).length≤1000000000) (hsb:(zBd r).length≤4611686018427387904) :
 Ct Tryz.prog W 55 [.pointer (some ⟨t,0,none⟩)] [TxBM M t s r0 Rs r m,StQ s n k r0] (fun _:Unit=>errV F (commE n r0 (zAs r0 r)))
  (fun _=>[TxE M t s,StQ s n (k+1) (commR n r0 (zAs r0 r))]):=by
 refine zBm fun ⟨(K,U),hU⟩=>?_
 exact (txcommitP (W:=W) (F:=F) hU hE hE8 hN h1 h2 hk hm h0 hl hbl hb hsb).to id (fun _=>rfl) (fun x R g q=>TxE.star g q)
theorem txrangeN_end (lo hi:List UInt8):Ct Tryz.prog W 22 [.pointer (some ⟨t,0,none⟩),strV lo,strV hi] [TxE M t s] (fun _:Unit=>rngN) (fun _=>[TxE M t s]):=by
 refine zBm (Hs:=[]) fun ⟨r,K,U⟩=>?_
 refine Ct.to (X:=Unit) (H':=fun _=>[TxP M t s r K U true]) ?_ id (fun _=>rfl) (fun _ R g q=>TxE.star g q)
 refine Ct.enter Tryz.func22 rfl Tryz.ntmps22 (by simp) (fun R=>?_)
 refine KJ.txOpen xS (fun x hT hMx=>?_)
 repeat' (first|refine xst ?_|(refine xsa ?_;intro _)|(refine xsb ?_ ?_ <;>intro _<;>try (exfalso;omega))|refine xsc ?_|fail)
 all_goals refine KJ.txShut (s:=s) (K:=K) (U:=U) (ended:=true) x hT hMx xP ?_
 all_goals (exact xdn ())
def RgN (M:List Nd) (a:Option Addr) (lo hi:List UInt8) (l:Rows):Prop:=∃ (tr:Tr) (r:Rows),RgOk M a tr lo hi (visN hi (fromR lo r))∧tr.frm lo=fromR lo r∧RisR r∧l=zBw lo hi r
theorem RgN.mono {N:List Nd} {a:Option Addr} {lo hi:List UInt8} {l:Rows} (h:RgN M a lo hi l) (hs:∀ x ∈ M,x ∈ N):RgN N a lo hi l:=by
 obtain ⟨tr,r,h1,h2,h3,h4⟩:=h
 exact ⟨tr,r,h1.mono hs,h2,h3,h4⟩
abbrev RngX (M:List Nd) (lo hi:List UInt8) (l:Rows):Type:={x:(Nat × Nat × Nat) × Option Addr × List Nd//(∀ y ∈ M,y ∈ x.2.2)∧RgN x.2.2 x.2.1 lo hi l}
theorem txrangeN (lo hi:List UInt8):Ct Tryz.prog W 22 [.pointer (some ⟨t,0,none⟩),strV lo,strV hi] [TxBM M t s r0 Rs r m] (fun x:RngX M lo hi (zBw lo hi r)=>rngV x.1.1) (fun x=>TxBM x.1.2.2 t s r0 Rs r m::rngP x.1.1 x.1.2.1 lo hi):=by
 refine zBm (Hs:=[]) fun ⟨(K,U),hU⟩=>?_
 dsimp only at hU ⊢
 refine Ct.to (X:=RngX M lo hi (zBw lo hi r)) (H':=fun x=>TxP x.1.2.2 t s r K U false::rngP x.1.1 x.1.2.1 lo hi) ?_ id (fun _=>rfl) (fun _ R g q=>TxB.star hU g q)
 refine Ct.enter Tryz.func22 rfl Tryz.ntmps22 (by simp) (fun R=>?_)
 refine KJ.txOpen xS (fun x hT hMx=>?_)
 have cr:=tbrange_ct (W:=W) (p:=x.q) (a:=x.a) (b:=x.b) lo hi
 have hg:RgN x.N x.a lo hi (zBw lo hi r):=by
  obtain ⟨tr,h1,h2⟩:=rg_of hT lo hi
  exact ⟨tr,r,h1,h2,hT.ris,rfl⟩
 repeat' (first|(refine zAd ?_;refine zAc xE cr xP rfl (fun y=>?_);obtain ⟨y1,y2,y3⟩:=y)|refine xst ?_|(refine xsa ?_;intro _)|(refine xsb ?_ ?_ <;>intro _<;>try (exfalso;omega))|refine xsc ?_|fail)
 all_goals refine KJ.txShut (M:=x.N) (s:=s) (K:=K) (U:=U) (ended:=false) x hT (fun _ h=>h) xP ?_
 all_goals exact xdn (⟨((y1,y2,y3),x.a,x.N),hMx,hg⟩:RngX M lo hi (zBw lo hi r))
theorem TxE.give {R:List SP}:∀ g,zAj (TxE M t s::R) g→zAj (arP M::R) g:=fun g q=>by
 obtain ⟨⟨r,K,U⟩,q1⟩:=unpack_star q
 obtain ⟨⟨x,hT,hM⟩,q2⟩:=unpack_star q1
 have q3:zAj (arP x.N::R) g:=(xN (As:=[arP x.N]) (R:=R)) g q2
 obtain ⟨h1,h2,dj,l1,l2,a1,s2⟩:=q3
 exact ⟨h1,h2,dj,l1,l2,fun y hy=>a1 y (hM y hy),s2⟩
theorem ar_join {N N':List Nd} {R:List SP}:∀ g,zAj (arP N::arP N'::R) g→zAj (arP (N++N')::R) g:=fun g q=>by
 obtain ⟨h1,h2,dj,l1,l2,q1,q2⟩:=(zBp (A:=[arP N,arP N']) (B:=R) g).1 q
 obtain ⟨h3,h4,dj2,l3,l4,a3,q3⟩:=q1
 obtain ⟨h5,h6,dj3,l5,l6,a5,q5⟩:=q3
 refine ⟨h1,h2,dj,l1,l2,fun y hy=>?_,q2⟩
 rcases List.mem_append.1 hy with h|h
 ·exact l3 _ _ (a3 y h)
 ·exact l4 _ _ (l5 _ _ (a5 y h))
theorem TxB.take {R:List SP}:∀ g,zAj (arP M::TxBM [] t s r0 Rs r m::R) g→zAj (TxBM M t s r0 Rs r m::R) g:=fun g q=>by
 have q0:=starL_swap g q
 obtain ⟨⟨⟨K,U⟩,hU⟩,q1⟩:=unpack_star q0
 obtain ⟨⟨x,hT,hM⟩,q2⟩:=unpack_star q1
 have q3:zAj (arP M::arP x.N::[zAh t (txC s x U.length false) 86,tbP x.q x.a x.b,mapP strV Value.bool x.m K,lsP ueC 1 1 (.slice x.ua U.length x.uc) U,undoP t U]++R) g:=
  (xN (As:=[arP M,arP x.N,zAh t (txC s x U.length false) 86,tbP x.q x.a x.b,mapP strV Value.bool x.m K,lsP ueC 1 1 (.slice x.ua U.length x.uc) U,undoP t U]) (R:=R)) g q2
 have q4:=ar_join g q3
 have q5:zAj (txL t s { x with N:=M++x.N } K U false++R) g:=(xN (As:=txL t s { x with N:=M++x.N } K U false) (R:=R)) g q4
 have q6:=pack_star (tag:=80) (key:=t) (F:=fun x:{x:TxH//TbOk x.N x.a r∧∀ y ∈ M,y ∈ x.N}=>txL t s x.1 K U false) ⟨{ x with N:=M++x.N },hT.mono (fun _ h=>List.mem_append_right _ h),fun _ h=>List.mem_append_left _ h⟩ g q5
 exact TxB.star hU g q6
theorem perm_lend {a c1 c2 c3 c4 c5:SP} {L:List SP}:([c1,c2,a,c3,c4,c5]++L).Perm ((a::L)++[c1,c2,c3,c4,c5]):=by
 have e1:([c1,c2]++a::([c3,c4,c5]++L)).Perm (a::([c1,c2]++([c3,c4,c5]++L))):=List.perm_middle
 have e2:([c1,c2,c3,c4,c5]++L).Perm (L++[c1,c2,c3,c4,c5]):=List.perm_append_comm
 exact e1.trans (List.Perm.cons a e2)
section
variable {f:FuncId} {args:List Value} {X:Type} {v:X→Value} {Hp:List SP} {H':X→List SP} {ended:Bool}
theorem lendP (h:∀ N,(∀ y ∈ M,y ∈ N)→Ct Tryz.prog W f args (arP N::Hp) v (fun z=>arP N::H' z)):Ct Tryz.prog W f args (TxP M t s r K U ended::Hp) v (fun z=>TxP M t s r K U ended::H' z):=by
 refine zBm (Hs:=Hp) fun ⟨x,hT,hM⟩=>?_
 have h1:=(h x.N hM).frm [zAh t (txC s x U.length ended) 86,tbP x.q x.a x.b,mapP strV Value.bool x.m K,lsP ueC 1 1 (.slice x.ua U.length x.uc) U,undoP t U]
 refine h1.conv (fun R g q=>starL_perm (perm_lend.append_right R) g q) (fun z R g q=>?_)
 have q2:zAj (txL t s x K U ended++(H' z++R)) g:=starL_perm (perm_lend.symm.append_right R) g q
 exact pack_star (tag:=80) (key:=t) (F:=fun x:{x:TxH//TbOk x.N x.a r∧∀ y ∈ M,y ∈ x.N}=>txL t s x.1 K U ended) ⟨x,hT,hM⟩ g q2
theorem lendE (h:∀ N,(∀ y ∈ M,y ∈ N)→Ct Tryz.prog W f args (arP N::Hp) v (fun z=>arP N::H' z)):Ct Tryz.prog W f args (TxE M t s::Hp) v (fun z=>TxE M t s::H' z):=by
 refine zBm (Hs:=Hp) fun ⟨r,K,U⟩=>?_
 exact (lendP h).to id (fun _=>rfl) (fun _ R g q=>TxE.star g q)
theorem lendB (h:∀ N,(∀ y ∈ M,y ∈ N)→Ct Tryz.prog W f args (arP N::Hp) v (fun z=>arP N::H' z)):Ct Tryz.prog W f args (TxBM M t s r0 Rs r m::Hp) v (fun z=>TxBM M t s r0 Rs r m::H' z):=by
 refine zBm (Hs:=Hp) fun ⟨(K,U),hU⟩=>?_
 exact (lendP h).to id (fun _=>rfl) (fun _ R g q=>TxB.star hU g q)
end
end
end Go.Proofs.YtgipenahkmbelaaGreatDoor
