/-
  TxN8, TxNB.
-/
import Derived.Test.YtgipenahkmbelaaGreatDoorTGI
set_option maxHeartbeats 64000000
namespace Go.Proofs.YtgipenahkmbelaaGreatDoor
open Go Go.RowKit
section
variable {W:World} {F:Nat→Addr} {w s n:Nat}
theorem pl_begin {x:PlX} (hx:PlOk W n x) (o:TOp) (hk:o.kind=1) (hn:n+zBa o≤20000) (hw:zBa o≤16384) :
 Ct Tryz.prog W 8 [.pointer (some ⟨w,0,none⟩),.agg (topC o).toArray] (plL w s x) (fun _:Unit=>.bool true) (fun _=>[PlP W w s (n+zBa o)]):=by
 obtain ⟨t,M,BP,ba,bc,sa,sc,l,st,ended,m,k,i0,i1⟩:=x
 obtain ⟨lv,sl,pl,mn,kn,it0,it1⟩:=hx
 dsimp only at lv sl pl mn kn it0 it1
 obtain ⟨b1,b2⟩:=pl.len (by omega)
 have pl':=pl.mono (Nat.le_add_right n (zBa o))
 cases ended with
 |false=>
  obtain ⟨o1,o2,o3,o4⟩:=pl.open (by omega)
  have cD:=txdropN (W:=W) (M:=M) (t:=t) (s:=s) (r0:=l) (Rs:=hisB l st) (r:=zAf l st) (m:=m)
  have cB:=txbeginB (W:=W) (s:=s) (n:=400) (k:=k) (r:=l) (by omega) pl.ris
  have c:=dbegin14_ct (W:=W) (w:=w) (s:=s) (t:=t) (ba:=ba) (bc:=bc) (sa:=sa) (sc:=sc) (q0:=i0.q) (q1:=i1.q) (r0:=i0.r) (r1:=i1.r) (bn:=l.length) (sn:=st.length) (e:=false) (T':=fun u=>TxB u s l [] l 0) o hk cD cB
  refine Ct.re (c.frm [BP,opP (sa,sc) st,itP 98 i0,itP 99 i1]) (fun R=>?_) (fun _=>rfl) (fun u R g q=>?_)
  ·have e:∀ g,zAj ([wP w s t ba l.length bc sa st.length sc false i0.q i1.q i0.r i1.r,TxBM M t s l (hisB l st) (zAf l st) m,StQ s 400 k l,BP,opP (sa,sc) st,itP 98 i0,itP 99 i1]++R) g→zAj ([wP w s t ba l.length bc sa st.length sc false i0.q i1.q i0.r i1.r,TxBM M t s l (hisB l st) (zAf l st) m,StQ s 400 k l]++[BP,opP (sa,sc) st,itP 98 i0,itP 99 i1]++R) g:=(xN)
   exact e
  have e1:∀ g,zAj ([wP w s u ba l.length bc none 0 0 false i0.q i1.q i0.r i1.r,TxE M t s,StQ s 400 k l,TxB u s l [] l 0]++[BP,opP (sa,sc) st,itP 98 i0,itP 99 i1]++R) g→zAj ([TxE M t s,TxB u s l [] l 0,wP w s u ba l.length bc none 0 0 false i0.q i1.q i0.r i1.r,StQ s 400 k l,BP,itP 98 i0,itP 99 i1]++R) g:=(xN)
  have q2:=TxE.give g (e1 g q)
  have q3:=TxB.take g q2
  have q4:=nilrow_star (e:=49) (sz:=3) g q3
  have e2:∀ g,zAj ([opP (none,0) [],TxBM M u s l [] l 0,wP w s u ba l.length bc none 0 0 false i0.q i1.q i0.r i1.r,StQ s 400 k l,BP,itP 98 i0,itP 99 i1]++R) g→zAj (plL w s ⟨u,M,BP,ba,bc,none,0,l,[],false,0,k,i0,i1⟩++R) g:=(xN)
  exact pl_in (x:=⟨u,M,BP,ba,bc,none,0,l,[],false,0,k,i0,i1⟩) ⟨lv,sl,pl'.new,(Nat.zero_le _),(by dsimp only;omega),it0,it1⟩ g (e2 g q4)
 |true=>
  have cD:=txdropN_end (W:=W) (M:=M) (t:=t) (s:=s)
  have cB:=txbeginB (W:=W) (s:=s) (n:=400) (k:=k) (r:=l) (by omega) pl.ris
  have c:=dbegin14_ct (W:=W) (w:=w) (s:=s) (t:=t) (ba:=ba) (bc:=bc) (sa:=sa) (sc:=sc) (q0:=i0.q) (q1:=i1.q) (r0:=i0.r) (r1:=i1.r) (bn:=l.length) (sn:=st.length) (e:=true) (T':=fun u=>TxB u s l [] l 0) o hk cD cB
  refine Ct.re (c.frm [BP,opP (sa,sc) st,itP 98 i0,itP 99 i1]) (fun R=>?_) (fun _=>rfl) (fun u R g q=>?_)
  ·have e:∀ g,zAj ([wP w s t ba l.length bc sa st.length sc true i0.q i1.q i0.r i1.r,TxE M t s,StQ s 400 k l,BP,opP (sa,sc) st,itP 98 i0,itP 99 i1]++R) g→zAj ([wP w s t ba l.length bc sa st.length sc true i0.q i1.q i0.r i1.r,TxE M t s,StQ s 400 k l]++[BP,opP (sa,sc) st,itP 98 i0,itP 99 i1]++R) g:=(xN)
   exact e
  have e1:∀ g,zAj ([wP w s u ba l.length bc none 0 0 false i0.q i1.q i0.r i1.r,TxE M t s,StQ s 400 k l,TxB u s l [] l 0]++[BP,opP (sa,sc) st,itP 98 i0,itP 99 i1]++R) g→zAj ([TxE M t s,TxB u s l [] l 0,wP w s u ba l.length bc none 0 0 false i0.q i1.q i0.r i1.r,StQ s 400 k l,BP,itP 98 i0,itP 99 i1]++R) g:=(xN)
  have q2:=TxE.give g (e1 g q)
  have q3:=TxB.take g q2
  have q4:=nilrow_star (e:=49) (sz:=3) g q3
  have e2:∀ g,zAj ([opP (none,0) [],TxBM M u s l [] l 0,wP w s u ba l.length bc none 0 0 false i0.q i1.q i0.r i1.r,StQ s 400 k l,BP,itP 98 i0,itP 99 i1]++R) g→zAj (plL w s ⟨u,M,BP,ba,bc,none,0,l,[],false,0,k,i0,i1⟩++R) g:=(xN)
  exact pl_in (x:=⟨u,M,BP,ba,bc,none,0,l,[],false,0,k,i0,i1⟩) ⟨lv,sl,pl'.new,(Nat.zero_le _),(by dsimp only;omega),it0,it1⟩ g (e2 g q4)
theorem pl_put {x:PlX} (hx:PlOk W n x) (o:TOp) (hk:o.kind=2) (hn:n+zBa o≤20000) (hw:zBa o≤16384) (hE:ErrsOn L16 W F) :
 Ct Tryz.prog W 8 [.pointer (some ⟨w,0,none⟩),.agg (topC o).toArray] (plL w s x) (fun _:Unit=>.bool true) (fun _=>[PlP W w s (n+zBa o)]):=by
 obtain ⟨t,M,BP,ba,bc,sa,sc,l,st,ended,m,k,i0,i1⟩:=x
 obtain ⟨lv,sl,pl,mn,kn,it0,it1⟩:=hx
 dsimp only at lv sl pl mn kn it0 it1
 obtain ⟨b1,b2⟩:=pl.len (by omega)
 have pl':=pl.mono (Nat.le_add_right n (zBa o))
 cases ended with
 |false=>
  obtain ⟨o1,o2,o3,o4⟩:=pl.open (by omega)
  have cP:=txputB (W:=W) (M:=M) (t:=t) (s:=s) (r0:=l) (Rs:=hisB l st) (r:=zAf l st) (m:=m) o.key o.val (by omega) (by omega)
  have e1:putR (zAf l st) o.key o.val=zAf l (st++[⟨false,o.key,o.val⟩]):=(applyB_snoc l st ⟨false,o.key,o.val⟩).symm
  rw [← hisB_next l st ⟨false,o.key,o.val⟩,e1] at cP
  have hs:PlI l (st++[(⟨false,o.key,o.val⟩:BOp)]) false (n+zBa o):=pl.step _ (by have:=(heavyW_key hw).1;omega) (by
   have k0:=(heavyW_key hw).1
   have k1:=opW_put o.key o.val (by omega) (by omega)
   omega)
  have c:=dput14_ct (W:=W) (w:=w) (s:=s) (t:=t) (ba:=ba) (bc:=bc) (sa:=sa) (sc:=sc) (q0:=i0.q) (q1:=i1.q) (r0:=i0.r) (r1:=i1.r) (bn:=l.length) (st:=st) (by omega) o hk cP
  refine Ct.re (c.frm [StQ s 400 k l,BP,itP 98 i0,itP 99 i1]) (fun R=>?_) (fun _=>rfl) (fun y R g q=>?_)
  ·have e:∀ g,zAj ([wP w s t ba l.length bc sa st.length sc false i0.q i1.q i0.r i1.r,TxBM M t s l (hisB l st) (zAf l st) m,StQ s 400 k l,BP,opP (sa,sc) st,itP 98 i0,itP 99 i1]++R) g→zAj ([wP w s t ba l.length bc sa st.length sc false i0.q i1.q i0.r i1.r,TxBM M t s l (hisB l st) (zAf l st) m,opP (sa,sc) st]++[StQ s 400 k l,BP,itP 98 i0,itP 99 i1]++R) g:=(xN)
   exact e
  have e:∀ g,zAj ([wP w s t ba l.length bc y.1 (st++[(⟨false,o.key,o.val⟩:BOp)]).length y.2 false i0.q i1.q i0.r i1.r,TxBM M t s l (hisB l (st++[(⟨false,o.key,o.val⟩:BOp)])) (zAf l (st++[(⟨false,o.key,o.val⟩:BOp)])) (m+1),opP y (st++[(⟨false,o.key,o.val⟩:BOp)])]++[StQ s 400 k l,BP,itP 98 i0,itP 99 i1]++R) g→zAj (plL w s ⟨t,M,BP,ba,bc,y.1,y.2,l,(st++[(⟨false,o.key,o.val⟩:BOp)]),false,(m+1),k,i0,i1⟩++R) g:=(xN)
  exact pl_in (x:=⟨t,M,BP,ba,bc,y.1,y.2,l,(st++[(⟨false,o.key,o.val⟩:BOp)]),false,(m+1),k,i0,i1⟩) ⟨lv,sl,hs,(by have:=(heavyW_key hw).1;dsimp only;omega),(by dsimp only;omega),it0,it1⟩ g (e g q)
 |true=>
  have cP:=txputN_end (W:=W) (M:=M) (t:=t) (s:=s) (F:=F) hE o.key o.val
  have c:=dput14_end (W:=W) (w:=w) (s:=s) (t:=t) (ba:=ba) (bc:=bc) (sa:=sa) (sc:=sc) (q0:=i0.q) (q1:=i1.q) (r0:=i0.r) (r1:=i1.r) (bn:=l.length) (sn:=st.length) o hk hE cP
  refine Ct.re (c.frm [StQ s 400 k l,BP,opP (sa,sc) st,itP 98 i0,itP 99 i1]) (fun R=>?_) (fun _=>rfl) (fun _ R g q=>?_)
  ·have e:∀ g,zAj ([wP w s t ba l.length bc sa st.length sc true i0.q i1.q i0.r i1.r,TxE M t s,StQ s 400 k l,BP,opP (sa,sc) st,itP 98 i0,itP 99 i1]++R) g→zAj ([wP w s t ba l.length bc sa st.length sc true i0.q i1.q i0.r i1.r,TxE M t s]++[StQ s 400 k l,BP,opP (sa,sc) st,itP 98 i0,itP 99 i1]++R) g:=(xN)
   exact e
  have e:∀ g,zAj ([wP w s t ba l.length bc sa st.length sc true i0.q i1.q i0.r i1.r,TxE M t s]++[StQ s 400 k l,BP,opP (sa,sc) st,itP 98 i0,itP 99 i1]++R) g→zAj (plL w s ⟨t,M,BP,ba,bc,sa,sc,l,st,true,m,k,i0,i1⟩++R) g:=(xN)
  exact pl_in (x:=⟨t,M,BP,ba,bc,sa,sc,l,st,true,m,k,i0,i1⟩) ⟨lv,sl,pl',(Nat.le_add_right_of_le mn),(by dsimp only;omega),it0,it1⟩ g (e g q)
theorem pl_del {x:PlX} (hx:PlOk W n x) (o:TOp) (hk:o.kind=3) (hn:n+zBa o≤20000) (hw:zBa o≤16384) (hE:ErrsOn L16 W F) :
 Ct Tryz.prog W 8 [.pointer (some ⟨w,0,none⟩),.agg (topC o).toArray] (plL w s x) (fun _:Unit=>.bool true) (fun _=>[PlP W w s (n+zBa o)]):=by
 obtain ⟨t,M,BP,ba,bc,sa,sc,l,st,ended,m,k,i0,i1⟩:=x
 obtain ⟨lv,sl,pl,mn,kn,it0,it1⟩:=hx
 dsimp only at lv sl pl mn kn it0 it1
 obtain ⟨b1,b2⟩:=pl.len (by omega)
 have pl':=pl.mono (Nat.le_add_right n (zBa o))
 cases ended with
 |false=>
  obtain ⟨o1,o2,o3,o4⟩:=pl.open (by omega)
  have cP:=txdelB (W:=W) (M:=M) (t:=t) (s:=s) (r0:=l) (Rs:=hisB l st) (r:=zAf l st) (m:=m) o.key (by omega) (by omega)
  have e1:mdel (zAf l st) o.key=zAf l (st++[⟨true,o.key,[]⟩]):=(applyB_snoc l st ⟨true,o.key,[]⟩).symm
  rw [← hisB_next l st ⟨true,o.key,[]⟩,e1] at cP
  have hs:PlI l (st++[(⟨true,o.key,[]⟩:BOp)]) false (n+zBa o):=pl.step _ (by have:=(heavyW_key hw).1;omega) (by
   have k0:=(heavyW_key hw).1
   have k1:=opW_del o.key (by omega)
   omega)
  have c:=ddel14_ct (W:=W) (w:=w) (s:=s) (t:=t) (ba:=ba) (bc:=bc) (sa:=sa) (sc:=sc) (q0:=i0.q) (q1:=i1.q) (r0:=i0.r) (r1:=i1.r) (bn:=l.length) (st:=st) (by omega) o hk cP
  refine Ct.re (c.frm [StQ s 400 k l,BP,itP 98 i0,itP 99 i1]) (fun R=>?_) (fun _=>rfl) (fun y R g q=>?_)
  ·have e:∀ g,zAj ([wP w s t ba l.length bc sa st.length sc false i0.q i1.q i0.r i1.r,TxBM M t s l (hisB l st) (zAf l st) m,StQ s 400 k l,BP,opP (sa,sc) st,itP 98 i0,itP 99 i1]++R) g→zAj ([wP w s t ba l.length bc sa st.length sc false i0.q i1.q i0.r i1.r,TxBM M t s l (hisB l st) (zAf l st) m,opP (sa,sc) st]++[StQ s 400 k l,BP,itP 98 i0,itP 99 i1]++R) g:=(xN)
   exact e
  have e:∀ g,zAj ([wP w s t ba l.length bc y.1 (st++[(⟨true,o.key,[]⟩:BOp)]).length y.2 false i0.q i1.q i0.r i1.r,TxBM M t s l (hisB l (st++[(⟨true,o.key,[]⟩:BOp)])) (zAf l (st++[(⟨true,o.key,[]⟩:BOp)])) (m+1),opP y (st++[(⟨true,o.key,[]⟩:BOp)])]++[StQ s 400 k l,BP,itP 98 i0,itP 99 i1]++R) g→zAj (plL w s ⟨t,M,BP,ba,bc,y.1,y.2,l,(st++[(⟨true,o.key,[]⟩:BOp)]),false,(m+1),k,i0,i1⟩++R) g:=(xN)
  exact pl_in (x:=⟨t,M,BP,ba,bc,y.1,y.2,l,(st++[(⟨true,o.key,[]⟩:BOp)]),false,(m+1),k,i0,i1⟩) ⟨lv,sl,hs,(by have:=(heavyW_key hw).1;dsimp only;omega),(by dsimp only;omega),it0,it1⟩ g (e g q)
 |true=>
  have cP:=txdelN_end (W:=W) (M:=M) (t:=t) (s:=s) (F:=F) hE o.key
  have c:=ddel14_end (W:=W) (w:=w) (s:=s) (t:=t) (ba:=ba) (bc:=bc) (sa:=sa) (sc:=sc) (q0:=i0.q) (q1:=i1.q) (r0:=i0.r) (r1:=i1.r) (bn:=l.length) (sn:=st.length) o hk hE cP
  refine Ct.re (c.frm [StQ s 400 k l,BP,opP (sa,sc) st,itP 98 i0,itP 99 i1]) (fun R=>?_) (fun _=>rfl) (fun _ R g q=>?_)
  ·have e:∀ g,zAj ([wP w s t ba l.length bc sa st.length sc true i0.q i1.q i0.r i1.r,TxE M t s,StQ s 400 k l,BP,opP (sa,sc) st,itP 98 i0,itP 99 i1]++R) g→zAj ([wP w s t ba l.length bc sa st.length sc true i0.q i1.q i0.r i1.r,TxE M t s]++[StQ s 400 k l,BP,opP (sa,sc) st,itP 98 i0,itP 99 i1]++R) g:=(xN)
   exact e
  have e:∀ g,zAj ([wP w s t ba l.length bc sa st.length sc true i0.q i1.q i0.r i1.r,TxE M t s]++[StQ s 400 k l,BP,opP (sa,sc) st,itP 98 i0,itP 99 i1]++R) g→zAj (plL w s ⟨t,M,BP,ba,bc,sa,sc,l,st,true,m,k,i0,i1⟩++R) g:=(xN)
  exact pl_in (x:=⟨t,M,BP,ba,bc,sa,sc,l,st,true,m,k,i0,i1⟩) ⟨lv,sl,pl',(Nat.le_add_right_of_le mn),(by dsimp only;omega),it0,it1⟩ g (e g q)
theorem pl_get {x:PlX} (hx:PlOk W n x) (o:TOp) (hk:o.kind=4) (hn:n+zBa o≤20000) (hw:zBa o≤16384) :
 Ct Tryz.prog W 8 [.pointer (some ⟨w,0,none⟩),.agg (topC o).toArray] (plL w s x) (fun _:Unit=>.bool true) (fun _=>[PlP W w s (n+zBa o)]):=by
 obtain ⟨t,M,BP,ba,bc,sa,sc,l,st,ended,m,k,i0,i1⟩:=x
 obtain ⟨lv,sl,pl,mn,kn,it0,it1⟩:=hx
 dsimp only at lv sl pl mn kn it0 it1
 obtain ⟨b1,b2⟩:=pl.len (by omega)
 have pl':=pl.mono (Nat.le_add_right n (zBa o))
 cases ended with
 |false=>
  obtain ⟨o1,o2,o3,o4⟩:=pl.open (by omega)
  have cG:=txgetB (W:=W) (M:=M) (t:=t) (s:=s) (r0:=l) (Rs:=hisB l st) (r:=zAf l st) (m:=m) o.key
  have c:=dget14_ct (W:=W) (w:=w) (s:=s) (t:=t) (ba:=ba) (bc:=bc) (sa:=sa) (sc:=sc) (q0:=i0.q) (q1:=i1.q) (r0:=i0.r) (r1:=i1.r) (BP:=BP) (l:=l) (st:=st) o hk lv sl pl.ris (by omega) (by omega) cG
  refine Ct.re (c.frm [StQ s 400 k l,itP 98 i0,itP 99 i1]) (fun R=>?_) (fun _=>rfl) (fun _ R g q=>?_)
  ·have e:∀ g,zAj ([wP w s t ba l.length bc sa st.length sc false i0.q i1.q i0.r i1.r,TxBM M t s l (hisB l st) (zAf l st) m,StQ s 400 k l,BP,opP (sa,sc) st,itP 98 i0,itP 99 i1]++R) g→zAj ([wP w s t ba l.length bc sa st.length sc false i0.q i1.q i0.r i1.r,TxBM M t s l (hisB l st) (zAf l st) m,BP,opP (sa,sc) st]++[StQ s 400 k l,itP 98 i0,itP 99 i1]++R) g:=(xN)
   exact e
  have e:∀ g,zAj ([wP w s t ba l.length bc sa st.length sc false i0.q i1.q i0.r i1.r,TxBM M t s l (hisB l st) (zAf l st) m,BP,opP (sa,sc) st]++[StQ s 400 k l,itP 98 i0,itP 99 i1]++R) g→zAj (plL w s ⟨t,M,BP,ba,bc,sa,sc,l,st,false,m,k,i0,i1⟩++R) g:=(xN)
  exact pl_in (x:=⟨t,M,BP,ba,bc,sa,sc,l,st,false,m,k,i0,i1⟩) ⟨lv,sl,pl',(Nat.le_add_right_of_le mn),(by dsimp only;omega),it0,it1⟩ g (e g q)
 |true=>
  have cG:=txgetN_end (W:=W) (M:=M) (t:=t) (s:=s) o.key
  have c:=dget14_end (W:=W) (w:=w) (s:=s) (t:=t) (ba:=ba) (bc:=bc) (sa:=sa) (sc:=sc) (q0:=i0.q) (q1:=i1.q) (r0:=i0.r) (r1:=i1.r) (bn:=l.length) (sn:=st.length) o hk cG
  refine Ct.re (c.frm [StQ s 400 k l,BP,opP (sa,sc) st,itP 98 i0,itP 99 i1]) (fun R=>?_) (fun _=>rfl) (fun _ R g q=>?_)
  ·have e:∀ g,zAj ([wP w s t ba l.length bc sa st.length sc true i0.q i1.q i0.r i1.r,TxE M t s,StQ s 400 k l,BP,opP (sa,sc) st,itP 98 i0,itP 99 i1]++R) g→zAj ([wP w s t ba l.length bc sa st.length sc true i0.q i1.q i0.r i1.r,TxE M t s]++[StQ s 400 k l,BP,opP (sa,sc) st,itP 98 i0,itP 99 i1]++R) g:=(xN)
   exact e
  have e:∀ g,zAj ([wP w s t ba l.length bc sa st.length sc true i0.q i1.q i0.r i1.r,TxE M t s]++[StQ s 400 k l,BP,opP (sa,sc) st,itP 98 i0,itP 99 i1]++R) g→zAj (plL w s ⟨t,M,BP,ba,bc,sa,sc,l,st,true,m,k,i0,i1⟩++R) g:=(xN)
  exact pl_in (x:=⟨t,M,BP,ba,bc,sa,sc,l,st,true,m,k,i0,i1⟩) ⟨lv,sl,pl',(Nat.le_add_right_of_le mn),(by dsimp only;omega),it0,it1⟩ g (e g q)
theorem pl_mark {x:PlX} (hx:PlOk W n x) (o:TOp) (hk:o.kind=7) (hn:n+zBa o≤20000) (hw:zBa o≤16384) :
 Ct Tryz.prog W 8 [.pointer (some ⟨w,0,none⟩),.agg (topC o).toArray] (plL w s x) (fun _:Unit=>.bool true) (fun _=>[PlP W w s (n+zBa o)]):=by
 obtain ⟨t,M,BP,ba,bc,sa,sc,l,st,ended,m,k,i0,i1⟩:=x
 obtain ⟨lv,sl,pl,mn,kn,it0,it1⟩:=hx
 dsimp only at lv sl pl mn kn it0 it1
 obtain ⟨b1,b2⟩:=pl.len (by omega)
 have pl':=pl.mono (Nat.le_add_right n (zBa o))
 cases ended with
 |false=>
  obtain ⟨o1,o2,o3,o4⟩:=pl.open (by omega)
  have cM:=txmarkB (W:=W) (M:=M) (t:=t) (s:=s) (r0:=l) (Rs:=hisB l st) (r:=zAf l st) (m:=m)
  rw [hisB_len] at cM
  have c:=dmark14_ct (W:=W) (w:=w) (s:=s) (t:=t) (ba:=ba) (bc:=bc) (sa:=sa) (sc:=sc) (q0:=i0.q) (q1:=i1.q) (r0:=i0.r) (r1:=i1.r) (bn:=l.length) (st:=st) o hk cM
  refine Ct.re (c.frm [StQ s 400 k l,BP,opP (sa,sc) st,itP 98 i0,itP 99 i1]) (fun R=>?_) (fun _=>rfl) (fun _ R g q=>?_)
  ·have e:∀ g,zAj ([wP w s t ba l.length bc sa st.length sc false i0.q i1.q i0.r i1.r,TxBM M t s l (hisB l st) (zAf l st) m,StQ s 400 k l,BP,opP (sa,sc) st,itP 98 i0,itP 99 i1]++R) g→zAj ([wP w s t ba l.length bc sa st.length sc false i0.q i1.q i0.r i1.r,TxBM M t s l (hisB l st) (zAf l st) m]++[StQ s 400 k l,BP,opP (sa,sc) st,itP 98 i0,itP 99 i1]++R) g:=(xN)
   exact e
  have e:∀ g,zAj ([wP w s t ba l.length bc sa st.length sc false i0.q i1.q i0.r i1.r,TxBM M t s l (hisB l st) (zAf l st) m]++[StQ s 400 k l,BP,opP (sa,sc) st,itP 98 i0,itP 99 i1]++R) g→zAj (plL w s ⟨t,M,BP,ba,bc,sa,sc,l,st,false,m,k,i0,i1⟩++R) g:=(xN)
  exact pl_in (x:=⟨t,M,BP,ba,bc,sa,sc,l,st,false,m,k,i0,i1⟩) ⟨lv,sl,pl',(Nat.le_add_right_of_le mn),(by dsimp only;omega),it0,it1⟩ g (e g q)
 |true=>
  have cM:=txmarkN_end (W:=W) (M:=M) (t:=t) (s:=s)
  have c:=dmark14_end (W:=W) (w:=w) (s:=s) (t:=t) (ba:=ba) (bc:=bc) (sa:=sa) (sc:=sc) (q0:=i0.q) (q1:=i1.q) (r0:=i0.r) (r1:=i1.r) (bn:=l.length) (sn:=st.length) o hk cM
  refine Ct.re (c.frm [StQ s 400 k l,BP,opP (sa,sc) st,itP 98 i0,itP 99 i1]) (fun R=>?_) (fun _=>rfl) (fun _ R g q=>?_)
  ·have e:∀ g,zAj ([wP w s t ba l.length bc sa st.length sc true i0.q i1.q i0.r i1.r,TxE M t s,StQ s 400 k l,BP,opP (sa,sc) st,itP 98 i0,itP 99 i1]++R) g→zAj ([wP w s t ba l.length bc sa st.length sc true i0.q i1.q i0.r i1.r,TxE M t s]++[StQ s 400 k l,BP,opP (sa,sc) st,itP 98 i0,itP 99 i1]++R) g:=(xN)
   exact e
  have e:∀ g,zAj ([wP w s t ba l.length bc sa st.length sc true i0.q i1.q i0.r i1.r,TxE M t s]++[StQ s 400 k l,BP,opP (sa,sc) st,itP 98 i0,itP 99 i1]++R) g→zAj (plL w s ⟨t,M,BP,ba,bc,sa,sc,l,st,true,m,k,i0,i1⟩++R) g:=(xN)
  exact pl_in (x:=⟨t,M,BP,ba,bc,sa,sc,l,st,true,m,k,i0,i1⟩) ⟨lv,sl,pl',(Nat.le_add_right_of_le mn),(by dsimp only;omega),it0,it1⟩ g (e g q)
theorem pl_ops {x:PlX} (hx:PlOk W n x) (o:TOp) (hk:o.kind=9) (hn:n+zBa o≤20000) (hw:zBa o≤16384) :
 Ct Tryz.prog W 8 [.pointer (some ⟨w,0,none⟩),.agg (topC o).toArray] (plL w s x) (fun _:Unit=>.bool true) (fun _=>[PlP W w s (n+zBa o)]):=by
 obtain ⟨t,M,BP,ba,bc,sa,sc,l,st,ended,m,k,i0,i1⟩:=x
 obtain ⟨lv,sl,pl,mn,kn,it0,it1⟩:=hx
 dsimp only at lv sl pl mn kn it0 it1
 obtain ⟨b1,b2⟩:=pl.len (by omega)
 have pl':=pl.mono (Nat.le_add_right n (zBa o))
 cases ended with
 |false=>
  obtain ⟨o1,o2,o3,o4⟩:=pl.open (by omega)
  have cO:=txopsB (W:=W) (M:=M) (t:=t) (s:=s) (n:=400) (k:=k) (r0:=l) (Rs:=hisB l st) (r:=zAf l st) (m:=m) (by omega)
  have c:=dops14_ct (W:=W) (w:=w) (s:=s) (t:=t) (ba:=ba) (bc:=bc) (sa:=sa) (sc:=sc) (q0:=i0.q) (q1:=i1.q) (r0:=i0.r) (r1:=i1.r) (BP:=BP) (l:=l) (st:=st) o hk lv sl pl.ris (by omega) (by omega) cO
  refine Ct.re (c.frm [itP 98 i0,itP 99 i1]) (fun R=>?_) (fun _=>rfl) (fun _ R g q=>?_)
  ·have e:∀ g,zAj ([wP w s t ba l.length bc sa st.length sc false i0.q i1.q i0.r i1.r,TxBM M t s l (hisB l st) (zAf l st) m,StQ s 400 k l,BP,opP (sa,sc) st,itP 98 i0,itP 99 i1]++R) g→zAj ([wP w s t ba l.length bc sa st.length sc false i0.q i1.q i0.r i1.r,TxBM M t s l (hisB l st) (zAf l st) m,StQ s 400 k l,BP,opP (sa,sc) st]++[itP 98 i0,itP 99 i1]++R) g:=(xN)
   exact e
  have e:∀ g,zAj ([wP w s t ba l.length bc sa st.length sc false i0.q i1.q i0.r i1.r,TxBM M t s l (hisB l st) (zAf l st) m,StQ s 400 k l,BP,opP (sa,sc) st]++[itP 98 i0,itP 99 i1]++R) g→zAj (plL w s ⟨t,M,BP,ba,bc,sa,sc,l,st,false,m,k,i0,i1⟩++R) g:=(xN)
  exact pl_in (x:=⟨t,M,BP,ba,bc,sa,sc,l,st,false,m,k,i0,i1⟩) ⟨lv,sl,pl',(Nat.le_add_right_of_le mn),(by dsimp only;omega),it0,it1⟩ g (e g q)
 |true=>
  have cO:=txopsN_end (W:=W) (M:=M) (t:=t) (s:=s)
  have c:=dops14_end (W:=W) (w:=w) (s:=s) (t:=t) (ba:=ba) (bc:=bc) (sa:=sa) (sc:=sc) (q0:=i0.q) (q1:=i1.q) (r0:=i0.r) (r1:=i1.r) (bn:=l.length) (sn:=st.length) o hk cO
  refine Ct.re (c.frm [StQ s 400 k l,BP,opP (sa,sc) st,itP 98 i0,itP 99 i1]) (fun R=>?_) (fun _=>rfl) (fun _ R g q=>?_)
  ·have e:∀ g,zAj ([wP w s t ba l.length bc sa st.length sc true i0.q i1.q i0.r i1.r,TxE M t s,StQ s 400 k l,BP,opP (sa,sc) st,itP 98 i0,itP 99 i1]++R) g→zAj ([wP w s t ba l.length bc sa st.length sc true i0.q i1.q i0.r i1.r,TxE M t s]++[StQ s 400 k l,BP,opP (sa,sc) st,itP 98 i0,itP 99 i1]++R) g:=(xN)
   exact e
  have e:∀ g,zAj ([wP w s t ba l.length bc sa st.length sc true i0.q i1.q i0.r i1.r,TxE M t s]++[StQ s 400 k l,BP,opP (sa,sc) st,itP 98 i0,itP 99 i1]++R) g→zAj (plL w s ⟨t,M,BP,ba,bc,sa,sc,l,st,true,m,k,i0,i1⟩++R) g:=(xN)
  exact pl_in (x:=⟨t,M,BP,ba,bc,sa,sc,l,st,true,m,k,i0,i1⟩) ⟨lv,sl,pl',(Nat.le_add_right_of_le mn),(by dsimp only;omega),it0,it1⟩ g (e g q)
theorem pl_size {x:PlX} (hx:PlOk W n x) (o:TOp) (hk:o.kind=10) (hn:n+zBa o≤20000) (hw:zBa o≤16384) :
 Ct Tryz.prog W 8 [.pointer (some ⟨w,0,none⟩),.agg (topC o).toArray] (plL w s x) (fun _:Unit=>.bool true) (fun _=>[PlP W w s (n+zBa o)]):=by
 obtain ⟨t,M,BP,ba,bc,sa,sc,l,st,ended,m,k,i0,i1⟩:=x
 obtain ⟨lv,sl,pl,mn,kn,it0,it1⟩:=hx
 dsimp only at lv sl pl mn kn it0 it1
 obtain ⟨b1,b2⟩:=pl.len (by omega)
 have pl':=pl.mono (Nat.le_add_right n (zBa o))
 cases ended with
 |false=>
  obtain ⟨o1,o2,o3,o4⟩:=pl.open (by omega)
  have cM:=txsizeB (W:=W) (M:=M) (t:=t) (s:=s) (n:=400) (k:=k) (r0:=l) (Rs:=hisB l st) (r:=zAf l st) (m:=m) (by omega) (by omega) pl.ris (by omega) (by omega)
  have c:=dsize14_do (W:=W) (w:=w) (s:=s) (t:=t) (ba:=ba) (bc:=bc) (sa:=sa) (sc:=sc) (q0:=i0.q) (q1:=i1.q) (r0:=i0.r) (r1:=i1.r) (BP:=BP) (l:=l) (st:=st) o hk lv sl pl.ris (by omega) (by omega) (by omega) cM
  refine Ct.re (c.frm [itP 98 i0,itP 99 i1]) (fun R=>?_) (fun _=>rfl) (fun _ R g q=>?_)
  ·have e:∀ g,zAj ([wP w s t ba l.length bc sa st.length sc false i0.q i1.q i0.r i1.r,TxBM M t s l (hisB l st) (zAf l st) m,StQ s 400 k l,BP,opP (sa,sc) st,itP 98 i0,itP 99 i1]++R) g→zAj ([wP w s t ba l.length bc sa st.length sc false i0.q i1.q i0.r i1.r,TxBM M t s l (hisB l st) (zAf l st) m,StQ s 400 k l,BP,opP (sa,sc) st]++[itP 98 i0,itP 99 i1]++R) g:=(xN)
   exact e
  have e:∀ g,zAj ([wP w s t ba l.length bc sa st.length sc false i0.q i1.q i0.r i1.r,TxBM M t s l (hisB l st) (zAf l st) m,StQ s 400 k l,BP,opP (sa,sc) st]++[itP 98 i0,itP 99 i1]++R) g→zAj (plL w s ⟨t,M,BP,ba,bc,sa,sc,l,st,false,m,k,i0,i1⟩++R) g:=(xN)
  exact pl_in (x:=⟨t,M,BP,ba,bc,sa,sc,l,st,false,m,k,i0,i1⟩) ⟨lv,sl,pl',(Nat.le_add_right_of_le mn),(by dsimp only;omega),it0,it1⟩ g (e g q)
 |true=>
  have cM:=txsizeN_end (W:=W) (M:=M) (t:=t) (s:=s)
  have c:=dsize14_doE (W:=W) (w:=w) (s:=s) (t:=t) (ba:=ba) (bc:=bc) (sa:=sa) (sc:=sc) (q0:=i0.q) (q1:=i1.q) (r0:=i0.r) (r1:=i1.r) (bn:=l.length) (sn:=st.length) o hk cM
  refine Ct.re (c.frm [StQ s 400 k l,BP,opP (sa,sc) st,itP 98 i0,itP 99 i1]) (fun R=>?_) (fun _=>rfl) (fun _ R g q=>?_)
  ·have e:∀ g,zAj ([wP w s t ba l.length bc sa st.length sc true i0.q i1.q i0.r i1.r,TxE M t s,StQ s 400 k l,BP,opP (sa,sc) st,itP 98 i0,itP 99 i1]++R) g→zAj ([wP w s t ba l.length bc sa st.length sc true i0.q i1.q i0.r i1.r,TxE M t s]++[StQ s 400 k l,BP,opP (sa,sc) st,itP 98 i0,itP 99 i1]++R) g:=(xN)
   exact e
  have e:∀ g,zAj ([wP w s t ba l.length bc sa st.length sc true i0.q i1.q i0.r i1.r,TxE M t s]++[StQ s 400 k l,BP,opP (sa,sc) st,itP 98 i0,itP 99 i1]++R) g→zAj (plL w s ⟨t,M,BP,ba,bc,sa,sc,l,st,true,m,k,i0,i1⟩++R) g:=(xN)
  exact pl_in (x:=⟨t,M,BP,ba,bc,sa,sc,l,st,true,m,k,i0,i1⟩) ⟨lv,sl,pl',(Nat.le_add_right_of_le mn),(by dsimp only;omega),it0,it1⟩ g (e g q)
theorem pl_drop {x:PlX} (hx:PlOk W n x) (o:TOp) (hk:o.kind=12) (hn:n+zBa o≤20000) (hw:zBa o≤16384) :
 Ct Tryz.prog W 8 [.pointer (some ⟨w,0,none⟩),.agg (topC o).toArray] (plL w s x) (fun _:Unit=>.bool true) (fun _=>[PlP W w s (n+zBa o)]):=by
 obtain ⟨t,M,BP,ba,bc,sa,sc,l,st,ended,m,k,i0,i1⟩:=x
 obtain ⟨lv,sl,pl,mn,kn,it0,it1⟩:=hx
 dsimp only at lv sl pl mn kn it0 it1
 obtain ⟨b1,b2⟩:=pl.len (by omega)
 have pl':=pl.mono (Nat.le_add_right n (zBa o))
 cases ended with
 |false=>
  obtain ⟨o1,o2,o3,o4⟩:=pl.open (by omega)
  have cD:=txdropN (W:=W) (M:=M) (t:=t) (s:=s) (r0:=l) (Rs:=hisB l st) (r:=zAf l st) (m:=m)
  have cR:=srowsQ (W:=W) (s:=s) (n:=400) (k:=k) (r:=l) (by omega)
  have c:=ddrop14_ct (W:=W) (w:=w) (s:=s) (t:=t) (ba:=ba) (bc:=bc) (sa:=sa) (sc:=sc) (q0:=i0.q) (q1:=i1.q) (r0:=i0.r) (r1:=i1.r) (BP:=BP) (l:=l) (sn:=st.length) (e:=false) o hk lv (by omega) cD cR
  refine Ct.re (c.frm [opP (sa,sc) st,itP 98 i0,itP 99 i1]) (fun R=>?_) (fun _=>rfl) (fun _ R g q=>?_)
  ·have e:∀ g,zAj ([wP w s t ba l.length bc sa st.length sc false i0.q i1.q i0.r i1.r,TxBM M t s l (hisB l st) (zAf l st) m,StQ s 400 k l,BP,opP (sa,sc) st,itP 98 i0,itP 99 i1]++R) g→zAj ([wP w s t ba l.length bc sa st.length sc false i0.q i1.q i0.r i1.r,TxBM M t s l (hisB l st) (zAf l st) m,StQ s 400 k l,BP]++[opP (sa,sc) st,itP 98 i0,itP 99 i1]++R) g:=(xN)
   exact e
  have e:∀ g,zAj ([wP w s t ba l.length bc sa st.length sc true i0.q i1.q i0.r i1.r,TxE M t s,StQ s 400 k l,BP]++[opP (sa,sc) st,itP 98 i0,itP 99 i1]++R) g→zAj (plL w s ⟨t,M,BP,ba,bc,sa,sc,l,st,true,m,k,i0,i1⟩++R) g:=(xN)
  exact pl_in (x:=⟨t,M,BP,ba,bc,sa,sc,l,st,true,m,k,i0,i1⟩) ⟨lv,sl,pl'.fin,(Nat.le_add_right_of_le mn),(by dsimp only;omega),it0,it1⟩ g (e g q)
 |true=>
  have cD:=txdropN_end (W:=W) (M:=M) (t:=t) (s:=s)
  have cR:=srowsQ (W:=W) (s:=s) (n:=400) (k:=k) (r:=l) (by omega)
  have c:=ddrop14_ct (W:=W) (w:=w) (s:=s) (t:=t) (ba:=ba) (bc:=bc) (sa:=sa) (sc:=sc) (q0:=i0.q) (q1:=i1.q) (r0:=i0.r) (r1:=i1.r) (BP:=BP) (l:=l) (sn:=st.length) (e:=true) o hk lv (by omega) cD cR
  refine Ct.re (c.frm [opP (sa,sc) st,itP 98 i0,itP 99 i1]) (fun R=>?_) (fun _=>rfl) (fun _ R g q=>?_)
  ·have e:∀ g,zAj ([wP w s t ba l.length bc sa st.length sc true i0.q i1.q i0.r i1.r,TxE M t s,StQ s 400 k l,BP,opP (sa,sc) st,itP 98 i0,itP 99 i1]++R) g→zAj ([wP w s t ba l.length bc sa st.length sc true i0.q i1.q i0.r i1.r,TxE M t s,StQ s 400 k l,BP]++[opP (sa,sc) st,itP 98 i0,itP 99 i1]++R) g:=(xN)
   exact e
  have e:∀ g,zAj ([wP w s t ba l.length bc sa st.length sc true i0.q i1.q i0.r i1.r,TxE M t s,StQ s 400 k l,BP]++[opP (sa,sc) st,itP 98 i0,itP 99 i1]++R) g→zAj (plL w s ⟨t,M,BP,ba,bc,sa,sc,l,st,true,m,k,i0,i1⟩++R) g:=(xN)
  exact pl_in (x:=⟨t,M,BP,ba,bc,sa,sc,l,st,true,m,k,i0,i1⟩) ⟨lv,sl,pl'.fin,(Nat.le_add_right_of_le mn),(by dsimp only;omega),it0,it1⟩ g (e g q)
theorem pl_com {x:PlX} (hx:PlOk W n x) (o:TOp) (hk:o.kind=11) (hn:n+zBa o≤20000) (hw:zBa o≤16384) (hE:ErrsAt W F) (hN:NibAt W) (hg:gB≤W.heap.size) :
 Ct Tryz.prog W 8 [.pointer (some ⟨w,0,none⟩),.agg (topC o).toArray] (plL w s x) (fun _:Unit=>.bool true) (fun _=>[PlP W w s (n+zBa o)]):=by
 obtain ⟨t,M,BP,ba,bc,sa,sc,l,st,ended,m,k,i0,i1⟩:=x
 obtain ⟨lv,sl,pl,mn,kn,it0,it1⟩:=hx
 dsimp only at lv sl pl mn kn it0 it1
 obtain ⟨b1,b2⟩:=pl.len (by omega)
 have pl':=pl.mono (Nat.le_add_right n (zBa o))
 cases ended with
 |false=>
  obtain ⟨o1,o2,o3,o4⟩:=pl.open (by omega)
  have hE16:ErrsOn L16 W F:=hE.to16
  have hE8:ErrsOn L8 W F:=hE16.to8
  have hris:=applyB_ris pl.ris st
  obtain ⟨f1,f2⟩:=comm14 pl.ris hris
  have cC:=txcommitN (W:=W) (F:=F) (M:=M) (t:=t) (s:=s) (n:=400) (k:=k) (r0:=l) (Rs:=hisB l st) (r:=zAf l st) (m:=m) hE16 hE8 hN (by omega) (by omega) (by omega) (by omega) pl.ris (by omega) (by omega) (by omega) (by omega)
  have he37:commE 400 l (zAs l (zAf l st))≤37:=by
   rw [f1]
   repeat' split
   all_goals omega
  have hpm:PlI (commR 400 l (zAs l (zAf l st))) st true (n+zBa o):=by
   rw [f2]
   split
   ·exact pl.com.mono (Nat.le_add_right _ _)
   ·exact pl'.fin
  obtain ⟨e,he⟩:∃ x,x=commE 400 l (zAs l (zAf l st)):=⟨_,rfl⟩
  obtain ⟨r,hr⟩:∃ x,x=commR 400 l (zAs l (zAf l st)):=⟨_,rfl⟩
  rw [← he] at cC he37
  rw [← hr] at cC hpm
  have hrl:=(hpm.len (by omega)).1
  have cR:=srowsQ (W:=W) (s:=s) (n:=400) (k:=k+1) (r:=r) (by omega)
  have cK:=wcommit14_ct (W:=W) (w:=w) (s:=s) (t:=t) (ba:=ba) (bc:=bc) (sa:=sa) (sc:=sc) (q0:=i0.q) (q1:=i1.q) (r0:=i0.r) (r1:=i1.r) (F:=F) (BP:=BP) (l:=l) (st:=st) hE hg lv sl pl.ris (by omega) (by omega) (by omega) (by omega) e he he37 r hr (by omega) cC cR
  clear he hr f1 f2 cC cR
  have c:=dcom14_ct (W:=W) (w:=w) (s:=s) (t:=t) (ba:=ba) (bc:=bc) (sa:=sa) (sc:=sc) (q0:=i0.q) (q1:=i1.q) (r0:=i0.r) (r1:=i1.r) (BP:=BP) (l:=l) (st:=st) o hk cK
  refine Ct.re (c.frm [itP 98 i0,itP 99 i1]) (fun R=>?_) (fun _=>rfl) (fun z R g q=>?_)
  ·have e:∀ g,zAj ([wP w s t ba l.length bc sa st.length sc false i0.q i1.q i0.r i1.r,TxBM M t s l (hisB l st) (zAf l st) m,StQ s 400 k l,BP,opP (sa,sc) st,itP 98 i0,itP 99 i1]++R) g→zAj ([wP w s t ba l.length bc sa st.length sc false i0.q i1.q i0.r i1.r,TxBM M t s l (hisB l st) (zAf l st) m,StQ s 400 k l,BP,opP (sa,sc) st]++[itP 98 i0,itP 99 i1]++R) g:=(xN)
   exact e
  have e:∀ g,zAj ([wP w s t z.1.2.1 r.length z.1.2.2 sa st.length sc true i0.q i1.q i0.r i1.r,TxE M t s,StQ s 400 (k+1) r,allP 94 [BP,z.1.1],opP (sa,sc) st]++[itP 98 i0,itP 99 i1]++R) g→zAj (plL w s ⟨t,M,(allP 94 [BP,z.1.1]),z.1.2.1,z.1.2.2,sa,sc,r,st,true,m,(k+1),i0,i1⟩++R) g:=(xN)
  exact pl_in (x:=⟨t,M,(allP 94 [BP,z.1.1]),z.1.2.1,z.1.2.2,sa,sc,r,st,true,m,(k+1),i0,i1⟩) ⟨z.2.1,z.2.2,hpm,(Nat.le_add_right_of_le mn),(by have:=(heavyW_key hw).1;dsimp only;omega),it0,it1⟩ g (e g q)
 |true=>
  have hE16:ErrsOn L16 W F:=hE.to16
  have cC:=txcommitN_end (W:=W) (M:=M) (t:=t) (s:=s) (F:=F) hE16
  have cR:=srowsQ (W:=W) (s:=s) (n:=400) (k:=k) (r:=l) (by omega)
  have cK:=wcommit14_end (W:=W) (w:=w) (s:=s) (t:=t) (ba:=ba) (bc:=bc) (sa:=sa) (sc:=sc) (q0:=i0.q) (q1:=i1.q) (r0:=i0.r) (r1:=i1.r) (F:=F) (BP:=BP) (l:=l) (sn:=st.length) hE hg lv (by omega) cC cR
  have c:=dcom14_end (W:=W) (w:=w) (s:=s) (t:=t) (ba:=ba) (bc:=bc) (sa:=sa) (sc:=sc) (q0:=i0.q) (q1:=i1.q) (r0:=i0.r) (r1:=i1.r) (BP:=BP) (l:=l) (sn:=st.length) o hk cK
  refine Ct.re (c.frm [opP (sa,sc) st,itP 98 i0,itP 99 i1]) (fun R=>?_) (fun _=>rfl) (fun _ R g q=>?_)
  ·have e:∀ g,zAj ([wP w s t ba l.length bc sa st.length sc true i0.q i1.q i0.r i1.r,TxE M t s,StQ s 400 k l,BP,opP (sa,sc) st,itP 98 i0,itP 99 i1]++R) g→zAj ([wP w s t ba l.length bc sa st.length sc true i0.q i1.q i0.r i1.r,TxE M t s,StQ s 400 k l,BP]++[opP (sa,sc) st,itP 98 i0,itP 99 i1]++R) g:=(xN)
   exact e
  have e:∀ g,zAj ([wP w s t ba l.length bc sa st.length sc true i0.q i1.q i0.r i1.r,TxE M t s,StQ s 400 k l,BP]++[opP (sa,sc) st,itP 98 i0,itP 99 i1]++R) g→zAj (plL w s ⟨t,M,BP,ba,bc,sa,sc,l,st,true,m,k,i0,i1⟩++R) g:=(xN)
  exact pl_in (x:=⟨t,M,BP,ba,bc,sa,sc,l,st,true,m,k,i0,i1⟩) ⟨lv,sl,pl',(Nat.le_add_right_of_le mn),(by dsimp only;omega),it0,it1⟩ g (e g q)
theorem pl_back_bad {x:PlX} (hx:PlOk W n x) (o:TOp) (hk:o.kind=8) (hn:n+zBa o≤20000) (hw:zBa o≤16384) (hE:ErrsOn L16 W F) (hj:o.n<0∨(x.st.length:Int)<o.n) :
 Ct Tryz.prog W 8 [.pointer (some ⟨w,0,none⟩),.agg (topC o).toArray] (plL w s x) (fun _:Unit=>.bool true) (fun _=>[PlP W w s (n+zBa o)]):=by
 obtain ⟨t,M,BP,ba,bc,sa,sc,l,st,ended,m,k,i0,i1⟩:=x
 obtain ⟨lv,sl,pl,mn,kn,it0,it1⟩:=hx
 dsimp only at lv sl pl mn kn it0 it1 hj
 obtain ⟨b1,b2⟩:=pl.len (by omega)
 have pl':=pl.mono (Nat.le_add_right n (zBa o))
 cases ended with
 |false=>
  obtain ⟨o1,o2,o3,o4⟩:=pl.open (by omega)
  have cT:=txbackN_bad (W:=W) (M:=M) (t:=t) (s:=s) (r0:=l) (Rs:=hisB l st) (r:=zAf l st) (m:=m) (F:=F) hE o.n (by rw [hisB_len];exact hj)
  have cK:=wback14_bad (W:=W) (w:=w) (s:=s) (t:=t) (ba:=ba) (bc:=bc) (sa:=sa) (sc:=sc) (q0:=i0.q) (q1:=i1.q) (r0:=i0.r) (r1:=i1.r) (bn:=l.length) (st:=st) (F:=F) (j:=o.n) hE hj cT
  have c:=dback14_bad (W:=W) (w:=w) (s:=s) (t:=t) (ba:=ba) (bc:=bc) (sa:=sa) (sc:=sc) (q0:=i0.q) (q1:=i1.q) (r0:=i0.r) (r1:=i1.r) (bn:=l.length) (st:=st) o hk cK
  refine Ct.re (c.frm [StQ s 400 k l,BP,opP (sa,sc) st,itP 98 i0,itP 99 i1]) (fun R=>?_) (fun _=>rfl) (fun _ R g q=>?_)
  ·have e:∀ g,zAj ([wP w s t ba l.length bc sa st.length sc false i0.q i1.q i0.r i1.r,TxBM M t s l (hisB l st) (zAf l st) m,StQ s 400 k l,BP,opP (sa,sc) st,itP 98 i0,itP 99 i1]++R) g→zAj ([wP w s t ba l.length bc sa st.length sc false i0.q i1.q i0.r i1.r,TxBM M t s l (hisB l st) (zAf l st) m]++[StQ s 400 k l,BP,opP (sa,sc) st,itP 98 i0,itP 99 i1]++R) g:=(xN)
   exact e
  have e:∀ g,zAj ([wP w s t ba l.length bc sa st.length sc false i0.q i1.q i0.r i1.r,TxBM M t s l (hisB l st) (zAf l st) m]++[StQ s 400 k l,BP,opP (sa,sc) st,itP 98 i0,itP 99 i1]++R) g→zAj (plL w s ⟨t,M,BP,ba,bc,sa,sc,l,st,false,m,k,i0,i1⟩++R) g:=(xN)
  exact pl_in (x:=⟨t,M,BP,ba,bc,sa,sc,l,st,false,m,k,i0,i1⟩) ⟨lv,sl,pl',(Nat.le_add_right_of_le mn),(by dsimp only;omega),it0,it1⟩ g (e g q)
 |true=>
  have cK:=wback14_end (W:=W) (w:=w) (s:=s) (t:=t) (ba:=ba) (bc:=bc) (sa:=sa) (sc:=sc) (q0:=i0.q) (q1:=i1.q) (r0:=i0.r) (r1:=i1.r) (bn:=l.length) (sn:=st.length) (F:=F) (j:=o.n) hE (txbackN_end (W:=W) (M:=M) (t:=t) (s:=s) (F:=F) hE o.n)
  have c:=dback14_end (W:=W) (w:=w) (s:=s) (t:=t) (ba:=ba) (bc:=bc) (sa:=sa) (sc:=sc) (q0:=i0.q) (q1:=i1.q) (r0:=i0.r) (r1:=i1.r) (bn:=l.length) (sn:=st.length) o hk cK
  refine Ct.re (c.frm [StQ s 400 k l,BP,opP (sa,sc) st,itP 98 i0,itP 99 i1]) (fun R=>?_) (fun _=>rfl) (fun _ R g q=>?_)
  ·have e:∀ g,zAj ([wP w s t ba l.length bc sa st.length sc true i0.q i1.q i0.r i1.r,TxE M t s,StQ s 400 k l,BP,opP (sa,sc) st,itP 98 i0,itP 99 i1]++R) g→zAj ([wP w s t ba l.length bc sa st.length sc true i0.q i1.q i0.r i1.r,TxE M t s]++[StQ s 400 k l,BP,opP (sa,sc) st,itP 98 i0,itP 99 i1]++R) g:=(xN)
   exact e
  have e:∀ g,zAj ([wP w s t ba l.length bc sa st.length sc true i0.q i1.q i0.r i1.r,TxE M t s]++[StQ s 400 k l,BP,opP (sa,sc) st,itP 98 i0,itP 99 i1]++R) g→zAj (plL w s ⟨t,M,BP,ba,bc,sa,sc,l,st,true,m,k,i0,i1⟩++R) g:=(xN)
  exact pl_in (x:=⟨t,M,BP,ba,bc,sa,sc,l,st,true,m,k,i0,i1⟩) ⟨lv,sl,pl',(Nat.le_add_right_of_le mn),(by dsimp only;omega),it0,it1⟩ g (e g q)
theorem pl_back {x:PlX} (hx:PlOk W n x) (o:TOp) (hk:o.kind=8) (hn:n+zBa o≤20000) (hw:zBa o≤16384) (hE:ErrsOn L16 W F) {j:Nat} (hj:o.n=j) (hl:j≤x.st.length) :
 Ct Tryz.prog W 8 [.pointer (some ⟨w,0,none⟩),.agg (topC o).toArray] (plL w s x) (fun _:Unit=>.bool true) (fun _=>[PlP W w s (n+zBa o)]):=by
 obtain ⟨t,M,BP,ba,bc,sa,sc,l,st,ended,m,k,i0,i1⟩:=x
 obtain ⟨lv,sl,pl,mn,kn,it0,it1⟩:=hx
 dsimp only at lv sl pl mn kn it0 it1 hl
 obtain ⟨b1,b2⟩:=pl.len (by omega)
 have pl':=pl.mono (Nat.le_add_right n (zBa o))
 cases ended with
 |false=>
  obtain ⟨o1,o2,o3,o4⟩:=pl.open (by omega)
  have cT:=txbackB (W:=W) (M:=M) (t:=t) (s:=s) (r0:=l) (Rs:=hisB l st) (r:=zAf l st) (m:=m) (j:=j) (fun x hx=>Nat.le_trans (hisB_mem hx) (by omega)) (by omega) (by rw [hisB_len];exact hl)
  rw [hisB_take l hl,hisB_at l hl] at cT
  have cK:=wback14_ct (W:=W) (w:=w) (s:=s) (t:=t) (ba:=ba) (bc:=bc) (sa:=sa) (sc:=sc) (q0:=i0.q) (q1:=i1.q) (r0:=i0.r) (r1:=i1.r) (bn:=l.length) (st:=st) (j:=j) hl cT
  rw [← hj] at cK
  have c:=dback14_ct (W:=W) (w:=w) (s:=s) (t:=t) (ba:=ba) (bc:=bc) (sa:=sa) (sc:=sc) (q0:=i0.q) (q1:=i1.q) (r0:=i0.r) (r1:=i1.r) (bn:=l.length) (st:=st) (j:=j) o hk cK
  refine Ct.re (c.frm [StQ s 400 k l,BP,itP 98 i0,itP 99 i1]) (fun R=>?_) (fun _=>rfl) (fun _ R g q=>?_)
  ·have e:∀ g,zAj ([wP w s t ba l.length bc sa st.length sc false i0.q i1.q i0.r i1.r,TxBM M t s l (hisB l st) (zAf l st) m,StQ s 400 k l,BP,opP (sa,sc) st,itP 98 i0,itP 99 i1]++R) g→zAj ([wP w s t ba l.length bc sa st.length sc false i0.q i1.q i0.r i1.r,TxBM M t s l (hisB l st) (zAf l st) m,opP (sa,sc) st]++[StQ s 400 k l,BP,itP 98 i0,itP 99 i1]++R) g:=(xN)
   exact e
  have e:∀ g,zAj ([wP w s t ba l.length bc sa (st.take j).length sc false i0.q i1.q i0.r i1.r,TxBM M t s l (hisB l (st.take j)) (zAf l (st.take j)) m,opP (sa,sc) (st.take j)]++[StQ s 400 k l,BP,itP 98 i0,itP 99 i1]++R) g→zAj (plL w s ⟨t,M,BP,ba,bc,sa,sc,l,(st.take j),false,m,k,i0,i1⟩++R) g:=(xN)
  exact pl_in (x:=⟨t,M,BP,ba,bc,sa,sc,l,(st.take j),false,m,k,i0,i1⟩) ⟨lv,sl,(pl'.cut j),(Nat.le_add_right_of_le mn),(by dsimp only;omega),it0,it1⟩ g (e g q)
 |true=>
  have cK:=wback14_end (W:=W) (w:=w) (s:=s) (t:=t) (ba:=ba) (bc:=bc) (sa:=sa) (sc:=sc) (q0:=i0.q) (q1:=i1.q) (r0:=i0.r) (r1:=i1.r) (bn:=l.length) (sn:=st.length) (F:=F) (j:=o.n) hE (txbackN_end (W:=W) (M:=M) (t:=t) (s:=s) (F:=F) hE o.n)
  have c:=dback14_end (W:=W) (w:=w) (s:=s) (t:=t) (ba:=ba) (bc:=bc) (sa:=sa) (sc:=sc) (q0:=i0.q) (q1:=i1.q) (r0:=i0.r) (r1:=i1.r) (bn:=l.length) (sn:=st.length) o hk cK
  refine Ct.re (c.frm [StQ s 400 k l,BP,opP (sa,sc) st,itP 98 i0,itP 99 i1]) (fun R=>?_) (fun _=>rfl) (fun _ R g q=>?_)
  ·have e:∀ g,zAj ([wP w s t ba l.length bc sa st.length sc true i0.q i1.q i0.r i1.r,TxE M t s,StQ s 400 k l,BP,opP (sa,sc) st,itP 98 i0,itP 99 i1]++R) g→zAj ([wP w s t ba l.length bc sa st.length sc true i0.q i1.q i0.r i1.r,TxE M t s]++[StQ s 400 k l,BP,opP (sa,sc) st,itP 98 i0,itP 99 i1]++R) g:=(xN)
   exact e
  have e:∀ g,zAj ([wP w s t ba l.length bc sa st.length sc true i0.q i1.q i0.r i1.r,TxE M t s]++[StQ s 400 k l,BP,opP (sa,sc) st,itP 98 i0,itP 99 i1]++R) g→zAj (plL w s ⟨t,M,BP,ba,bc,sa,sc,l,st,true,m,k,i0,i1⟩++R) g:=(xN)
  exact pl_in (x:=⟨t,M,BP,ba,bc,sa,sc,l,st,true,m,k,i0,i1⟩) ⟨lv,sl,pl',(Nat.le_add_right_of_le mn),(by dsimp only;omega),it0,it1⟩ g (e g q)
end
end Go.Proofs.YtgipenahkmbelaaGreatDoor
namespace Go.Proofs.YtgipenahkmbelaaGreatDoor
open Go Go.RowKit
theorem rangeR_len (lo hi:List UInt8) (r:Rows):(zBw lo hi r).length≤r.length:=Nat.le_trans (List.length_filter_le ..) (List.length_filter_le ..)
section
variable {W:World} {F:Nat→Addr} {w s n:Nat}
theorem pl_range_0 {x:PlX} (hx:PlOk W n x) (o:TOp) (hk:o.kind=5) (hn:n+zBa o≤20000) (hw:zBa o≤16384) (hi:o.i % 2=0) :
 Ct Tryz.prog W 8 [.pointer (some ⟨w,0,none⟩),.agg (topC o).toArray] (plL w s x) (fun _:Unit=>.bool true) (fun _=>[PlP W w s (n+zBa o)]):=by
 obtain ⟨t,M,BP,ba,bc,sa,sc,l,st,ended,m,k,i0,i1⟩:=x
 obtain ⟨lv,sl,pl,mn,kn,it0,it1⟩:=hx
 dsimp only at lv sl pl mn kn it0 it1
 obtain ⟨b1,b2⟩:=pl.len (by omega)
 have pl':=pl.mono (Nat.le_add_right n (zBa o))
 cases ended with
 |false=>
  obtain ⟨o1,o2,o3,o4⟩:=pl.open (by omega)
  have cR:Ct Tryz.prog W 22 [.pointer (some ⟨t,0,none⟩),strV o.key,strV o.val] [TxBM M t s l (hisB l st) (zAf l st) m] (fun z:RngX M o.key o.val (zBw o.key o.val (zAf l st))=>rngV z.1.1) (fun z=>[TxBM z.1.2.2 t s l (hisB l st) (zAf l st) m,allP 90 (rngP z.1.1 z.1.2.1 o.key o.val)]):=
   (txrangeN (W:=W) (M:=M) (t:=t) (s:=s) (r0:=l) (Rs:=hisB l st) (r:=zAf l st) (m:=m) o.key o.val).conv (fun R g q=>q) (fun z R g q=>by
    have e:∀ g,zAj ([TxBM z.1.2.2 t s l (hisB l st) (zAf l st) m,zAh z.1.1.1 [.pointer z.1.2.1] 119,zAh z.1.1.2.1 [strV o.key] 9,zAh z.1.1.2.2 [strV o.val] 9]++R) g→zAj ([zAh z.1.1.1 [.pointer z.1.2.1] 119,zAh z.1.1.2.1 [strV o.key] 9,zAh z.1.1.2.2 [strV o.val] 9,TxBM z.1.2.2 t s l (hisB l st) (zAf l st) m]++R) g:=(xN)
    exact starL_swap g (all_shut (key:=90) (L:=rngP z.1.1 z.1.2.1 o.key o.val) (e g q)))
  have c:=drange14_0 (W:=W) (w:=w) (s:=s) (t:=t) (ba:=ba) (bc:=bc) (sa:=sa) (sc:=sc) (q0:=i0.q) (q1:=i1.q) (r0:=i0.r) (r1:=i1.r) (BP:=BP) (l:=l) (st:=st) (Z:=RngX M o.key o.val (zBw o.key o.val (zAf l st))) (xz:=fun z=>z.1.1) (TZ:=fun z=>TxBM z.1.2.2 t s l (hisB l st) (zAf l st) m) (EZ:=fun z=>allP 90 (rngP z.1.1 z.1.2.1 o.key o.val)) o hk hi lv sl pl.ris (by omega) (by omega) (zBw o.key o.val (zAf l st)) rfl cR
  refine Ct.re (c.frm [StQ s 400 k l,itP 98 i0,itP 99 i1]) (fun R=>?_) (fun _=>rfl) (fun z R g q=>?_)
  ·have e:∀ g,zAj ([wP w s t ba l.length bc sa st.length sc false i0.q i1.q i0.r i1.r,TxBM M t s l (hisB l st) (zAf l st) m,StQ s 400 k l,BP,opP (sa,sc) st,itP 98 i0,itP 99 i1]++R) g→zAj ([wP w s t ba l.length bc sa st.length sc false i0.q i1.q i0.r i1.r,TxBM M t s l (hisB l st) (zAf l st) m,BP,opP (sa,sc) st]++[StQ s 400 k l,itP 98 i0,itP 99 i1]++R) g:=(xN)
   exact e
  have e1:∀ g,zAj ([wP w s t ba l.length bc sa st.length sc false (rngV z.1.1.1) i1.q (.slice z.2.1 (zBw o.key o.val (zAf l st)).length z.2.2) i1.r,TxBM z.1.1.2.2 t s l (hisB l st) (zAf l st) m,allP 90 [zAh z.1.1.1.1 [.pointer z.1.1.2.1] 119,zAh z.1.1.1.2.1 [strV o.key] 9,zAh z.1.1.1.2.2 [strV o.val] 9],BP,opP (sa,sc) st,roP z.2 (zBw o.key o.val (zAf l st))]++[StQ s 400 k l,itP 98 i0,itP 99 i1]++R) g→zAj ([allP 90 [zAh z.1.1.1.1 [.pointer z.1.1.2.1] 119,zAh z.1.1.1.2.1 [strV o.key] 9,zAh z.1.1.1.2.2 [strV o.val] 9],roP z.2 (zBw o.key o.val (zAf l st)),wP w s t ba l.length bc sa st.length sc false (rngV z.1.1.1) i1.q (.slice z.2.1 (zBw o.key o.val (zAf l st)).length z.2.2) i1.r,TxBM z.1.1.2.2 t s l (hisB l st) (zAf l st) m,StQ s 400 k l,BP,opP (sa,sc) st,itP 99 i1]++R) g:=(xN)
  have q1:zAj ([zAh z.1.1.1.1 [.pointer z.1.1.2.1] 119,zAh z.1.1.1.2.1 [strV o.key] 9,zAh z.1.1.1.2.2 [strV o.val] 9]++([roP z.2 (zBw o.key o.val (zAf l st)),wP w s t ba l.length bc sa st.length sc false (rngV z.1.1.1) i1.q (.slice z.2.1 (zBw o.key o.val (zAf l st)).length z.2.2) i1.r,TxBM z.1.1.2.2 t s l (hisB l st) (zAf l st) m,StQ s 400 k l,BP,opP (sa,sc) st,itP 99 i1]++R)) g:=all_open (e1 g q)
  have e2:∀ g,zAj ([zAh z.1.1.1.1 [.pointer z.1.1.2.1] 119,zAh z.1.1.1.2.1 [strV o.key] 9,zAh z.1.1.1.2.2 [strV o.val] 9,roP z.2 (zBw o.key o.val (zAf l st)),wP w s t ba l.length bc sa st.length sc false (rngV z.1.1.1) i1.q (.slice z.2.1 (zBw o.key o.val (zAf l st)).length z.2.2) i1.r,TxBM z.1.1.2.2 t s l (hisB l st) (zAf l st) m,StQ s 400 k l,BP,opP (sa,sc) st,itP 99 i1]++R) g→zAj ([roP z.2 (zBw o.key o.val (zAf l st)),zAh z.1.1.1.1 [.pointer z.1.1.2.1] 119,zAh z.1.1.1.2.1 [strV o.key] 9,zAh z.1.1.1.2.2 [strV o.val] 9,wP w s t ba l.length bc sa st.length sc false (rngV z.1.1.1) i1.q (.slice z.2.1 (zBw o.key o.val (zAf l st)).length z.2.2) i1.r,TxBM z.1.1.2.2 t s l (hisB l st) (zAf l st) m,StQ s 400 k l,BP,opP (sa,sc) st,itP 99 i1]++R) g:=(xN)
  have q2:zAj (allP 98 [roP z.2 (zBw o.key o.val (zAf l st)),zAh z.1.1.1.1 [.pointer z.1.1.2.1] 119,zAh z.1.1.1.2.1 [strV o.key] 9,zAh z.1.1.1.2.2 [strV o.val] 9]::([wP w s t ba l.length bc sa st.length sc false (rngV z.1.1.1) i1.q (.slice z.2.1 (zBw o.key o.val (zAf l st)).length z.2.2) i1.r,TxBM z.1.1.2.2 t s l (hisB l st) (zAf l st) m,StQ s 400 k l,BP,opP (sa,sc) st,itP 99 i1]++R)) g:=all_shut (L:=[roP z.2 (zBw o.key o.val (zAf l st)),zAh z.1.1.1.1 [.pointer z.1.1.2.1] 119,zAh z.1.1.1.2.1 [strV o.key] 9,zAh z.1.1.1.2.2 [strV o.val] 9]) (e2 g q1)
  have e3:∀ g,zAj ([allP 98 [roP z.2 (zBw o.key o.val (zAf l st)),zAh z.1.1.1.1 [.pointer z.1.1.2.1] 119,zAh z.1.1.1.2.1 [strV o.key] 9,zAh z.1.1.1.2.2 [strV o.val] 9],wP w s t ba l.length bc sa st.length sc false (rngV z.1.1.1) i1.q (.slice z.2.1 (zBw o.key o.val (zAf l st)).length z.2.2) i1.r,TxBM z.1.1.2.2 t s l (hisB l st) (zAf l st) m,StQ s 400 k l,BP,opP (sa,sc) st,itP 99 i1]++R) g→zAj ([wP w s t ba l.length bc sa st.length sc false (rngV z.1.1.1) i1.q (.slice z.2.1 (zBw o.key o.val (zAf l st)).length z.2.2) i1.r,TxBM z.1.1.2.2 t s l (hisB l st) (zAf l st) m,StQ s 400 k l,BP,opP (sa,sc) st,allP 98 [roP z.2 (zBw o.key o.val (zAf l st)),zAh z.1.1.1.1 [.pointer z.1.1.2.1] 119,zAh z.1.1.1.2.1 [strV o.key] 9,zAh z.1.1.1.2.2 [strV o.val] 9],itP 99 i1]++R) g:=(xN)
  exact pl_in (x:=⟨t,z.1.1.2.2,BP,ba,bc,sa,sc,l,st,false,m,k,⟨2,z.1.1.1,z.1.1.2.1,o.key,o.val,(zBw o.key o.val (zAf l st)),z.2.1,z.2.2⟩,i1⟩) ⟨lv,sl,pl',(Nat.le_add_right_of_le mn),(by dsimp only;omega),⟨Nat.le_trans (rangeR_len _ _ _) (by omega),(fun h=>by cases h),fun _=>z.1.2.2⟩,(it1.mono z.1.2.1)⟩ g (e3 g q2)
 |true=>
  have cR:=txrangeN_end (W:=W) (M:=M) (t:=t) (s:=s) o.key o.val
  have c:=drange14_end0 (W:=W) (w:=w) (s:=s) (t:=t) (ba:=ba) (bc:=bc) (sa:=sa) (sc:=sc) (q0:=i0.q) (q1:=i1.q) (r0:=i0.r) (r1:=i1.r) (bn:=l.length) (sn:=st.length) o hk hi cR
  refine Ct.re (c.frm [StQ s 400 k l,BP,opP (sa,sc) st,itP 98 i0,itP 99 i1]) (fun R=>?_) (fun _=>rfl) (fun z R g q=>?_)
  ·have e:∀ g,zAj ([wP w s t ba l.length bc sa st.length sc true i0.q i1.q i0.r i1.r,TxE M t s,StQ s 400 k l,BP,opP (sa,sc) st,itP 98 i0,itP 99 i1]++R) g→zAj ([wP w s t ba l.length bc sa st.length sc true i0.q i1.q i0.r i1.r,TxE M t s]++[StQ s 400 k l,BP,opP (sa,sc) st,itP 98 i0,itP 99 i1]++R) g:=(xN)
   exact e
  have e1:∀ g,zAj ([wP w s t ba l.length bc sa st.length sc true rngN i1.q (.slice z.1 0 z.2) i1.r,TxE M t s,roP z []]++[StQ s 400 k l,BP,opP (sa,sc) st,itP 98 i0,itP 99 i1]++R) g→zAj ([roP z [],wP w s t ba l.length bc sa st.length sc true rngN i1.q (.slice z.1 0 z.2) i1.r,TxE M t s,StQ s 400 k l,BP,opP (sa,sc) st,itP 99 i1]++R) g:=(xN)
  have q2:zAj (allP 98 [roP z []]::([wP w s t ba l.length bc sa st.length sc true rngN i1.q (.slice z.1 0 z.2) i1.r,TxE M t s,StQ s 400 k l,BP,opP (sa,sc) st,itP 99 i1]++R)) g:=all_shut (L:=[roP z []]) (e1 g q)
  have e3:∀ g,zAj ([allP 98 [roP z []],wP w s t ba l.length bc sa st.length sc true rngN i1.q (.slice z.1 0 z.2) i1.r,TxE M t s,StQ s 400 k l,BP,opP (sa,sc) st,itP 99 i1]++R) g→zAj ([wP w s t ba l.length bc sa st.length sc true rngN i1.q (.slice z.1 0 z.2) i1.r,TxE M t s,StQ s 400 k l,BP,opP (sa,sc) st,allP 98 [roP z []],itP 99 i1]++R) g:=(xN)
  exact pl_in (x:=⟨t,M,BP,ba,bc,sa,sc,l,st,true,m,k,⟨1,(0,0,0),none,[],[],[],z.1,z.2⟩,i1⟩) ⟨lv,sl,pl',(Nat.le_add_right_of_le mn),(by dsimp only;omega),⟨Nat.zero_le _,fun _=>rfl,fun h=>absurd h (by dsimp only;decide)⟩,it1⟩ g (e3 g q2)
theorem go14_0 {T:SP} {M:List Nd} {t:Nat} {ba sa:Option Addr} {bn sn bc sc:Nat} {e:Bool} {q1 r1:Value} {i:ItX} (ho:ItOk M i) (o:TOp) (hk:o.kind=6) (hi:o.i % 2=0) (hon:-9223372036854775808≤o.n∧o.n≤9223372036854775807)
 (hT:∀ args,(∀ N,(∀ y ∈ M,y ∈ N)→Ct Tryz.prog W 24 args [arP N,itP 98 i] (fun _:Unit=>.bool true) (fun _=>[arP N,itP 98 i]))→Ct Tryz.prog W 24 args [T,itP 98 i] (fun _:Unit=>.bool true) (fun _=>[T,itP 98 i])) :
 Ct Tryz.prog W 8 [.pointer (some ⟨w,0,none⟩),.agg (topC o).toArray] [wP w s t ba bn bc sa sn sc e i.q q1 i.r r1,T,itP 98 i] (fun _:Unit=>.bool true) (fun _=>[wP w s t ba bn bc sa sn sc e i.q q1 i.r r1,T,itP 98 i]):=by
 obtain ⟨ik,ix,ia,ilo,ihi,irows,ira,irc⟩:=i
 match ik,ho,hT with
 |0,ho,hT=>exact (dgo14_no0 (W:=W) (w:=w) (s:=s) (t:=t) (ba:=ba) (bn:=bn) (bc:=bc) (sa:=sa) (sn:=sn) (sc:=sc) (e:=e) o hk hi).frm [T,itP 98 ⟨0,ix,ia,ilo,ihi,irows,ira,irc⟩]
 |1,ho,hT=>
  have hr:irows=[]:=ho.one rfl
  subst hr
  exact dgo14_0 (W:=W) (w:=w) (s:=s) (t:=t) (ba:=ba) (bn:=bn) (bc:=bc) (sa:=sa) (sn:=sn) (sc:=sc) (e:=e) (k:=0) o hk hi (hT _ fun N _=>over14_end (arP N) 98 ira irc o.n)
 |j+2,ho,hT=>
  have h2:=ho.two (Nat.le_add_left 2 j)
  have hl:=ho.len
  exact dgo14_0 (W:=W) (w:=w) (s:=s) (t:=t) (ba:=ba) (bn:=bn) (bc:=bc) (sa:=sa) (sn:=sn) (sc:=sc) (e:=e) (k:=irows.length) o hk hi (hT _ fun N hN=>over14_ct (h2.mono hN) hl ix 98 ira irc o.n hon)
theorem pl_go_0 {x:PlX} (hx:PlOk W n x) (o:TOp) (hk:o.kind=6) (hn:n+zBa o≤20000) (hw:zBa o≤16384) (hi:o.i % 2=0) (hon:-9223372036854775808≤o.n∧o.n≤9223372036854775807) :
 Ct Tryz.prog W 8 [.pointer (some ⟨w,0,none⟩),.agg (topC o).toArray] (plL w s x) (fun _:Unit=>.bool true) (fun _=>[PlP W w s (n+zBa o)]):=by
 obtain ⟨t,M,BP,ba,bc,sa,sc,l,st,ended,m,k,i0,i1⟩:=x
 obtain ⟨lv,sl,pl,mn,kn,it0,it1⟩:=hx
 dsimp only at lv sl pl mn kn it0 it1
 obtain ⟨b1,b2⟩:=pl.len (by omega)
 have pl':=pl.mono (Nat.le_add_right n (zBa o))
 cases ended with
 |false=>
  obtain ⟨o1,o2,o3,o4⟩:=pl.open (by omega)
  have c:=go14_0 (W:=W) (w:=w) (s:=s) (T:=TxBM M t s l (hisB l st) (zAf l st) m) (M:=M) (t:=t) (ba:=ba) (bn:=l.length) (bc:=bc) (sa:=sa) (sn:=st.length) (sc:=sc) (e:=false) (q1:=i1.q) (r1:=i1.r) (i:=i0) it0 o hk hi hon (fun args h=>lendB h)
  refine Ct.re (c.frm [StQ s 400 k l,BP,opP (sa,sc) st,itP 99 i1]) (fun R=>?_) (fun _=>rfl) (fun _ R g q=>?_)
  ·have e:∀ g,zAj ([wP w s t ba l.length bc sa st.length sc false i0.q i1.q i0.r i1.r,TxBM M t s l (hisB l st) (zAf l st) m,StQ s 400 k l,BP,opP (sa,sc) st,itP 98 i0,itP 99 i1]++R) g→zAj ([wP w s t ba l.length bc sa st.length sc false i0.q i1.q i0.r i1.r,TxBM M t s l (hisB l st) (zAf l st) m,itP 98 i0]++[StQ s 400 k l,BP,opP (sa,sc) st,itP 99 i1]++R) g:=(xN)
   exact e
  have e:∀ g,zAj ([wP w s t ba l.length bc sa st.length sc false i0.q i1.q i0.r i1.r,TxBM M t s l (hisB l st) (zAf l st) m,itP 98 i0]++[StQ s 400 k l,BP,opP (sa,sc) st,itP 99 i1]++R) g→zAj (plL w s ⟨t,M,BP,ba,bc,sa,sc,l,st,false,m,k,i0,i1⟩++R) g:=(xN)
  exact pl_in (x:=⟨t,M,BP,ba,bc,sa,sc,l,st,false,m,k,i0,i1⟩) ⟨lv,sl,pl',(Nat.le_add_right_of_le mn),(by dsimp only;omega),it0,it1⟩ g (e g q)
 |true=>
  have c:=go14_0 (W:=W) (w:=w) (s:=s) (T:=TxE M t s) (M:=M) (t:=t) (ba:=ba) (bn:=l.length) (bc:=bc) (sa:=sa) (sn:=st.length) (sc:=sc) (e:=true) (q1:=i1.q) (r1:=i1.r) (i:=i0) it0 o hk hi hon (fun args h=>lendE h)
  refine Ct.re (c.frm [StQ s 400 k l,BP,opP (sa,sc) st,itP 99 i1]) (fun R=>?_) (fun _=>rfl) (fun _ R g q=>?_)
  ·have e:∀ g,zAj ([wP w s t ba l.length bc sa st.length sc true i0.q i1.q i0.r i1.r,TxE M t s,StQ s 400 k l,BP,opP (sa,sc) st,itP 98 i0,itP 99 i1]++R) g→zAj ([wP w s t ba l.length bc sa st.length sc true i0.q i1.q i0.r i1.r,TxE M t s,itP 98 i0]++[StQ s 400 k l,BP,opP (sa,sc) st,itP 99 i1]++R) g:=(xN)
   exact e
  have e:∀ g,zAj ([wP w s t ba l.length bc sa st.length sc true i0.q i1.q i0.r i1.r,TxE M t s,itP 98 i0]++[StQ s 400 k l,BP,opP (sa,sc) st,itP 99 i1]++R) g→zAj (plL w s ⟨t,M,BP,ba,bc,sa,sc,l,st,true,m,k,i0,i1⟩++R) g:=(xN)
  exact pl_in (x:=⟨t,M,BP,ba,bc,sa,sc,l,st,true,m,k,i0,i1⟩) ⟨lv,sl,pl',(Nat.le_add_right_of_le mn),(by dsimp only;omega),it0,it1⟩ g (e g q)
theorem pl_range_1 {x:PlX} (hx:PlOk W n x) (o:TOp) (hk:o.kind=5) (hn:n+zBa o≤20000) (hw:zBa o≤16384) (hi:o.i % 2=1) :
 Ct Tryz.prog W 8 [.pointer (some ⟨w,0,none⟩),.agg (topC o).toArray] (plL w s x) (fun _:Unit=>.bool true) (fun _=>[PlP W w s (n+zBa o)]):=by
 obtain ⟨t,M,BP,ba,bc,sa,sc,l,st,ended,m,k,i0,i1⟩:=x
 obtain ⟨lv,sl,pl,mn,kn,it0,it1⟩:=hx
 dsimp only at lv sl pl mn kn it0 it1
 obtain ⟨b1,b2⟩:=pl.len (by omega)
 have pl':=pl.mono (Nat.le_add_right n (zBa o))
 cases ended with
 |false=>
  obtain ⟨o1,o2,o3,o4⟩:=pl.open (by omega)
  have cR:Ct Tryz.prog W 22 [.pointer (some ⟨t,0,none⟩),strV o.key,strV o.val] [TxBM M t s l (hisB l st) (zAf l st) m] (fun z:RngX M o.key o.val (zBw o.key o.val (zAf l st))=>rngV z.1.1) (fun z=>[TxBM z.1.2.2 t s l (hisB l st) (zAf l st) m,allP 90 (rngP z.1.1 z.1.2.1 o.key o.val)]):=
   (txrangeN (W:=W) (M:=M) (t:=t) (s:=s) (r0:=l) (Rs:=hisB l st) (r:=zAf l st) (m:=m) o.key o.val).conv (fun R g q=>q) (fun z R g q=>by
    have e:∀ g,zAj ([TxBM z.1.2.2 t s l (hisB l st) (zAf l st) m,zAh z.1.1.1 [.pointer z.1.2.1] 119,zAh z.1.1.2.1 [strV o.key] 9,zAh z.1.1.2.2 [strV o.val] 9]++R) g→zAj ([zAh z.1.1.1 [.pointer z.1.2.1] 119,zAh z.1.1.2.1 [strV o.key] 9,zAh z.1.1.2.2 [strV o.val] 9,TxBM z.1.2.2 t s l (hisB l st) (zAf l st) m]++R) g:=(xN)
    exact starL_swap g (all_shut (key:=90) (L:=rngP z.1.1 z.1.2.1 o.key o.val) (e g q)))
  have c:=drange14_1 (W:=W) (w:=w) (s:=s) (t:=t) (ba:=ba) (bc:=bc) (sa:=sa) (sc:=sc) (q0:=i0.q) (q1:=i1.q) (r0:=i0.r) (r1:=i1.r) (BP:=BP) (l:=l) (st:=st) (Z:=RngX M o.key o.val (zBw o.key o.val (zAf l st))) (xz:=fun z=>z.1.1) (TZ:=fun z=>TxBM z.1.2.2 t s l (hisB l st) (zAf l st) m) (EZ:=fun z=>allP 90 (rngP z.1.1 z.1.2.1 o.key o.val)) o hk hi lv sl pl.ris (by omega) (by omega) (zBw o.key o.val (zAf l st)) rfl cR
  refine Ct.re (c.frm [StQ s 400 k l,itP 98 i0,itP 99 i1]) (fun R=>?_) (fun _=>rfl) (fun z R g q=>?_)
  ·have e:∀ g,zAj ([wP w s t ba l.length bc sa st.length sc false i0.q i1.q i0.r i1.r,TxBM M t s l (hisB l st) (zAf l st) m,StQ s 400 k l,BP,opP (sa,sc) st,itP 98 i0,itP 99 i1]++R) g→zAj ([wP w s t ba l.length bc sa st.length sc false i0.q i1.q i0.r i1.r,TxBM M t s l (hisB l st) (zAf l st) m,BP,opP (sa,sc) st]++[StQ s 400 k l,itP 98 i0,itP 99 i1]++R) g:=(xN)
   exact e
  have e1:∀ g,zAj ([wP w s t ba l.length bc sa st.length sc false i0.q (rngV z.1.1.1) i0.r (.slice z.2.1 (zBw o.key o.val (zAf l st)).length z.2.2),TxBM z.1.1.2.2 t s l (hisB l st) (zAf l st) m,allP 90 [zAh z.1.1.1.1 [.pointer z.1.1.2.1] 119,zAh z.1.1.1.2.1 [strV o.key] 9,zAh z.1.1.1.2.2 [strV o.val] 9],BP,opP (sa,sc) st,roP z.2 (zBw o.key o.val (zAf l st))]++[StQ s 400 k l,itP 98 i0,itP 99 i1]++R) g→zAj ([allP 90 [zAh z.1.1.1.1 [.pointer z.1.1.2.1] 119,zAh z.1.1.1.2.1 [strV o.key] 9,zAh z.1.1.1.2.2 [strV o.val] 9],roP z.2 (zBw o.key o.val (zAf l st)),wP w s t ba l.length bc sa st.length sc false i0.q (rngV z.1.1.1) i0.r (.slice z.2.1 (zBw o.key o.val (zAf l st)).length z.2.2),TxBM z.1.1.2.2 t s l (hisB l st) (zAf l st) m,StQ s 400 k l,BP,opP (sa,sc) st,itP 98 i0]++R) g:=(xN)
  have q1:zAj ([zAh z.1.1.1.1 [.pointer z.1.1.2.1] 119,zAh z.1.1.1.2.1 [strV o.key] 9,zAh z.1.1.1.2.2 [strV o.val] 9]++([roP z.2 (zBw o.key o.val (zAf l st)),wP w s t ba l.length bc sa st.length sc false i0.q (rngV z.1.1.1) i0.r (.slice z.2.1 (zBw o.key o.val (zAf l st)).length z.2.2),TxBM z.1.1.2.2 t s l (hisB l st) (zAf l st) m,StQ s 400 k l,BP,opP (sa,sc) st,itP 98 i0]++R)) g:=all_open (e1 g q)
  have e2:∀ g,zAj ([zAh z.1.1.1.1 [.pointer z.1.1.2.1] 119,zAh z.1.1.1.2.1 [strV o.key] 9,zAh z.1.1.1.2.2 [strV o.val] 9,roP z.2 (zBw o.key o.val (zAf l st)),wP w s t ba l.length bc sa st.length sc false i0.q (rngV z.1.1.1) i0.r (.slice z.2.1 (zBw o.key o.val (zAf l st)).length z.2.2),TxBM z.1.1.2.2 t s l (hisB l st) (zAf l st) m,StQ s 400 k l,BP,opP (sa,sc) st,itP 98 i0]++R) g→zAj ([roP z.2 (zBw o.key o.val (zAf l st)),zAh z.1.1.1.1 [.pointer z.1.1.2.1] 119,zAh z.1.1.1.2.1 [strV o.key] 9,zAh z.1.1.1.2.2 [strV o.val] 9,wP w s t ba l.length bc sa st.length sc false i0.q (rngV z.1.1.1) i0.r (.slice z.2.1 (zBw o.key o.val (zAf l st)).length z.2.2),TxBM z.1.1.2.2 t s l (hisB l st) (zAf l st) m,StQ s 400 k l,BP,opP (sa,sc) st,itP 98 i0]++R) g:=(xN)
  have q2:zAj (allP 99 [roP z.2 (zBw o.key o.val (zAf l st)),zAh z.1.1.1.1 [.pointer z.1.1.2.1] 119,zAh z.1.1.1.2.1 [strV o.key] 9,zAh z.1.1.1.2.2 [strV o.val] 9]::([wP w s t ba l.length bc sa st.length sc false i0.q (rngV z.1.1.1) i0.r (.slice z.2.1 (zBw o.key o.val (zAf l st)).length z.2.2),TxBM z.1.1.2.2 t s l (hisB l st) (zAf l st) m,StQ s 400 k l,BP,opP (sa,sc) st,itP 98 i0]++R)) g:=all_shut (L:=[roP z.2 (zBw o.key o.val (zAf l st)),zAh z.1.1.1.1 [.pointer z.1.1.2.1] 119,zAh z.1.1.1.2.1 [strV o.key] 9,zAh z.1.1.1.2.2 [strV o.val] 9]) (e2 g q1)
  have e3:∀ g,zAj ([allP 99 [roP z.2 (zBw o.key o.val (zAf l st)),zAh z.1.1.1.1 [.pointer z.1.1.2.1] 119,zAh z.1.1.1.2.1 [strV o.key] 9,zAh z.1.1.1.2.2 [strV o.val] 9],wP w s t ba l.length bc sa st.length sc false i0.q (rngV z.1.1.1) i0.r (.slice z.2.1 (zBw o.key o.val (zAf l st)).length z.2.2),TxBM z.1.1.2.2 t s l (hisB l st) (zAf l st) m,StQ s 400 k l,BP,opP (sa,sc) st,itP 98 i0]++R) g→zAj ([wP w s t ba l.length bc sa st.length sc false i0.q (rngV z.1.1.1) i0.r (.slice z.2.1 (zBw o.key o.val (zAf l st)).length z.2.2),TxBM z.1.1.2.2 t s l (hisB l st) (zAf l st) m,StQ s 400 k l,BP,opP (sa,sc) st,itP 98 i0,allP 99 [roP z.2 (zBw o.key o.val (zAf l st)),zAh z.1.1.1.1 [.pointer z.1.1.2.1] 119,zAh z.1.1.1.2.1 [strV o.key] 9,zAh z.1.1.1.2.2 [strV o.val] 9]]++R) g:=(xN)
  exact pl_in (x:=⟨t,z.1.1.2.2,BP,ba,bc,sa,sc,l,st,false,m,k,i0,⟨2,z.1.1.1,z.1.1.2.1,o.key,o.val,(zBw o.key o.val (zAf l st)),z.2.1,z.2.2⟩⟩) ⟨lv,sl,pl',(Nat.le_add_right_of_le mn),(by dsimp only;omega),(it0.mono z.1.2.1),⟨Nat.le_trans (rangeR_len _ _ _) (by omega),(fun h=>by cases h),fun _=>z.1.2.2⟩⟩ g (e3 g q2)
 |true=>
  have cR:=txrangeN_end (W:=W) (M:=M) (t:=t) (s:=s) o.key o.val
  have c:=drange14_end1 (W:=W) (w:=w) (s:=s) (t:=t) (ba:=ba) (bc:=bc) (sa:=sa) (sc:=sc) (q0:=i0.q) (q1:=i1.q) (r0:=i0.r) (r1:=i1.r) (bn:=l.length) (sn:=st.length) o hk hi cR
  refine Ct.re (c.frm [StQ s 400 k l,BP,opP (sa,sc) st,itP 98 i0,itP 99 i1]) (fun R=>?_) (fun _=>rfl) (fun z R g q=>?_)
  ·have e:∀ g,zAj ([wP w s t ba l.length bc sa st.length sc true i0.q i1.q i0.r i1.r,TxE M t s,StQ s 400 k l,BP,opP (sa,sc) st,itP 98 i0,itP 99 i1]++R) g→zAj ([wP w s t ba l.length bc sa st.length sc true i0.q i1.q i0.r i1.r,TxE M t s]++[StQ s 400 k l,BP,opP (sa,sc) st,itP 98 i0,itP 99 i1]++R) g:=(xN)
   exact e
  have e1:∀ g,zAj ([wP w s t ba l.length bc sa st.length sc true i0.q rngN i0.r (.slice z.1 0 z.2),TxE M t s,roP z []]++[StQ s 400 k l,BP,opP (sa,sc) st,itP 98 i0,itP 99 i1]++R) g→zAj ([roP z [],wP w s t ba l.length bc sa st.length sc true i0.q rngN i0.r (.slice z.1 0 z.2),TxE M t s,StQ s 400 k l,BP,opP (sa,sc) st,itP 98 i0]++R) g:=(xN)
  have q2:zAj (allP 99 [roP z []]::([wP w s t ba l.length bc sa st.length sc true i0.q rngN i0.r (.slice z.1 0 z.2),TxE M t s,StQ s 400 k l,BP,opP (sa,sc) st,itP 98 i0]++R)) g:=all_shut (L:=[roP z []]) (e1 g q)
  have e3:∀ g,zAj ([allP 99 [roP z []],wP w s t ba l.length bc sa st.length sc true i0.q rngN i0.r (.slice z.1 0 z.2),TxE M t s,StQ s 400 k l,BP,opP (sa,sc) st,itP 98 i0]++R) g→zAj ([wP w s t ba l.length bc sa st.length sc true i0.q rngN i0.r (.slice z.1 0 z.2),TxE M t s,StQ s 400 k l,BP,opP (sa,sc) st,itP 98 i0,allP 99 [roP z []]]++R) g:=(xN)
  exact pl_in (x:=⟨t,M,BP,ba,bc,sa,sc,l,st,true,m,k,i0,⟨1,(0,0,0),none,[],[],[],z.1,z.2⟩⟩) ⟨lv,sl,pl',(Nat.le_add_right_of_le mn),(by dsimp only;omega),it0,⟨Nat.zero_le _,fun _=>rfl,fun h=>absurd h (by dsimp only;decide)⟩⟩ g (e3 g q2)
theorem go14_1 {T:SP} {M:List Nd} {t:Nat} {ba sa:Option Addr} {bn sn bc sc:Nat} {e:Bool} {q0 r0:Value} {i:ItX} (ho:ItOk M i) (o:TOp) (hk:o.kind=6) (hi:o.i % 2=1) (hon:-9223372036854775808≤o.n∧o.n≤9223372036854775807)
 (hT:∀ args,(∀ N,(∀ y ∈ M,y ∈ N)→Ct Tryz.prog W 24 args [arP N,itP 99 i] (fun _:Unit=>.bool true) (fun _=>[arP N,itP 99 i]))→Ct Tryz.prog W 24 args [T,itP 99 i] (fun _:Unit=>.bool true) (fun _=>[T,itP 99 i])) :
 Ct Tryz.prog W 8 [.pointer (some ⟨w,0,none⟩),.agg (topC o).toArray] [wP w s t ba bn bc sa sn sc e q0 i.q r0 i.r,T,itP 99 i] (fun _:Unit=>.bool true) (fun _=>[wP w s t ba bn bc sa sn sc e q0 i.q r0 i.r,T,itP 99 i]):=by
 obtain ⟨ik,ix,ia,ilo,ihi,irows,ira,irc⟩:=i
 match ik,ho,hT with
 |0,ho,hT=>exact (dgo14_no1 (W:=W) (w:=w) (s:=s) (t:=t) (ba:=ba) (bn:=bn) (bc:=bc) (sa:=sa) (sn:=sn) (sc:=sc) (e:=e) o hk hi).frm [T,itP 99 ⟨0,ix,ia,ilo,ihi,irows,ira,irc⟩]
 |1,ho,hT=>
  have hr:irows=[]:=ho.one rfl
  subst hr
  exact dgo14_1 (W:=W) (w:=w) (s:=s) (t:=t) (ba:=ba) (bn:=bn) (bc:=bc) (sa:=sa) (sn:=sn) (sc:=sc) (e:=e) (k:=0) o hk hi (hT _ fun N _=>over14_end (arP N) 99 ira irc o.n)
 |j+2,ho,hT=>
  have h2:=ho.two (Nat.le_add_left 2 j)
  have hl:=ho.len
  exact dgo14_1 (W:=W) (w:=w) (s:=s) (t:=t) (ba:=ba) (bn:=bn) (bc:=bc) (sa:=sa) (sn:=sn) (sc:=sc) (e:=e) (k:=irows.length) o hk hi (hT _ fun N hN=>over14_ct (h2.mono hN) hl ix 99 ira irc o.n hon)
theorem pl_go_1 {x:PlX} (hx:PlOk W n x) (o:TOp) (hk:o.kind=6) (hn:n+zBa o≤20000) (hw:zBa o≤16384) (hi:o.i % 2=1) (hon:-9223372036854775808≤o.n∧o.n≤9223372036854775807) :
 Ct Tryz.prog W 8 [.pointer (some ⟨w,0,none⟩),.agg (topC o).toArray] (plL w s x) (fun _:Unit=>.bool true) (fun _=>[PlP W w s (n+zBa o)]):=by
 obtain ⟨t,M,BP,ba,bc,sa,sc,l,st,ended,m,k,i0,i1⟩:=x
 obtain ⟨lv,sl,pl,mn,kn,it0,it1⟩:=hx
 dsimp only at lv sl pl mn kn it0 it1
 obtain ⟨b1,b2⟩:=pl.len (by omega)
 have pl':=pl.mono (Nat.le_add_right n (zBa o))
 cases ended with
 |false=>
  obtain ⟨o1,o2,o3,o4⟩:=pl.open (by omega)
  have c:=go14_1 (W:=W) (w:=w) (s:=s) (T:=TxBM M t s l (hisB l st) (zAf l st) m) (M:=M) (t:=t) (ba:=ba) (bn:=l.length) (bc:=bc) (sa:=sa) (sn:=st.length) (sc:=sc) (e:=false) (q0:=i0.q) (r0:=i0.r) (i:=i1) it1 o hk hi hon (fun args h=>lendB h)
  refine Ct.re (c.frm [StQ s 400 k l,BP,opP (sa,sc) st,itP 98 i0]) (fun R=>?_) (fun _=>rfl) (fun _ R g q=>?_)
  ·have e:∀ g,zAj ([wP w s t ba l.length bc sa st.length sc false i0.q i1.q i0.r i1.r,TxBM M t s l (hisB l st) (zAf l st) m,StQ s 400 k l,BP,opP (sa,sc) st,itP 98 i0,itP 99 i1]++R) g→zAj ([wP w s t ba l.length bc sa st.length sc false i0.q i1.q i0.r i1.r,TxBM M t s l (hisB l st) (zAf l st) m,itP 99 i1]++[StQ s 400 k l,BP,opP (sa,sc) st,itP 98 i0]++R) g:=(xN)
   exact e
  have e:∀ g,zAj ([wP w s t ba l.length bc sa st.length sc false i0.q i1.q i0.r i1.r,TxBM M t s l (hisB l st) (zAf l st) m,itP 99 i1]++[StQ s 400 k l,BP,opP (sa,sc) st,itP 98 i0]++R) g→zAj (plL w s ⟨t,M,BP,ba,bc,sa,sc,l,st,false,m,k,i0,i1⟩++R) g:=(xN)
  exact pl_in (x:=⟨t,M,BP,ba,bc,sa,sc,l,st,false,m,k,i0,i1⟩) ⟨lv,sl,pl',(Nat.le_add_right_of_le mn),(by dsimp only;omega),it0,it1⟩ g (e g q)
 |true=>
  have c:=go14_1 (W:=W) (w:=w) (s:=s) (T:=TxE M t s) (M:=M) (t:=t) (ba:=ba) (bn:=l.length) (bc:=bc) (sa:=sa) (sn:=st.length) (sc:=sc) (e:=true) (q0:=i0.q) (r0:=i0.r) (i:=i1) it1 o hk hi hon (fun args h=>lendE h)
  refine Ct.re (c.frm [StQ s 400 k l,BP,opP (sa,sc) st,itP 98 i0]) (fun R=>?_) (fun _=>rfl) (fun _ R g q=>?_)
  ·have e:∀ g,zAj ([wP w s t ba l.length bc sa st.length sc true i0.q i1.q i0.r i1.r,TxE M t s,StQ s 400 k l,BP,opP (sa,sc) st,itP 98 i0,itP 99 i1]++R) g→zAj ([wP w s t ba l.length bc sa st.length sc true i0.q i1.q i0.r i1.r,TxE M t s,itP 99 i1]++[StQ s 400 k l,BP,opP (sa,sc) st,itP 98 i0]++R) g:=(xN)
   exact e
  have e:∀ g,zAj ([wP w s t ba l.length bc sa st.length sc true i0.q i1.q i0.r i1.r,TxE M t s,itP 99 i1]++[StQ s 400 k l,BP,opP (sa,sc) st,itP 98 i0]++R) g→zAj (plL w s ⟨t,M,BP,ba,bc,sa,sc,l,st,true,m,k,i0,i1⟩++R) g:=(xN)
  exact pl_in (x:=⟨t,M,BP,ba,bc,sa,sc,l,st,true,m,k,i0,i1⟩) ⟨lv,sl,pl',(Nat.le_add_right_of_le mn),(by dsimp only;omega),it0,it1⟩ g (e g q)
theorem pl_range {x:PlX} (hx:PlOk W n x) (o:TOp) (hk:o.kind=5) (hn:n+zBa o≤20000) (hw:zBa o≤16384) :
 Ct Tryz.prog W 8 [.pointer (some ⟨w,0,none⟩),.agg (topC o).toArray] (plL w s x) (fun _:Unit=>.bool true) (fun _=>[PlP W w s (n+zBa o)]):=by
 by_cases hi:o.i % 2=0
 ·exact pl_range_0 hx o hk hn hw hi
 ·exact pl_range_1 hx o hk hn hw (by omega)
theorem pl_go {x:PlX} (hx:PlOk W n x) (o:TOp) (hk:o.kind=6) (hn:n+zBa o≤20000) (hw:zBa o≤16384) (hon:-9223372036854775808≤o.n∧o.n≤9223372036854775807) :
 Ct Tryz.prog W 8 [.pointer (some ⟨w,0,none⟩),.agg (topC o).toArray] (plL w s x) (fun _:Unit=>.bool true) (fun _=>[PlP W w s (n+zBa o)]):=by
 by_cases hi:o.i % 2=0
 ·exact pl_go_0 hx o hk hn hw hi hon
 ·exact pl_go_1 hx o hk hn hw (by omega) hon
theorem pl_big {x:PlX} (hx:PlOk W n x) (o:TOp) (hk:o.kind=13) (hn:n+zBa o≤20000) (hw:zBa o≤16384) (hE:ErrsOn L16 W F) (hon:-9223372036854775808≤o.n∧o.n≤9223372036854775807) :
 Ct Tryz.prog W 8 [.pointer (some ⟨w,0,none⟩),.agg (topC o).toArray] (plL w s x) (fun _:Unit=>.bool true) (fun _=>[PlP W w s (n+zBa o)]):=by
 obtain ⟨t,M,BP,ba,bc,sa,sc,l,st,ended,m,k,i0,i1⟩:=x
 obtain ⟨lv,sl,pl,mn,kn,it0,it1⟩:=hx
 dsimp only at lv sl pl mn kn it0 it1
 obtain ⟨b1,b2⟩:=pl.len (by omega)
 have pl':=pl.mono (Nat.le_add_right n (zBa o))
 cases ended with
 |false=>
  obtain ⟨o1,o2,o3,o4⟩:=pl.open (by omega)
  have cP:=txputB (W:=W) (M:=M) (t:=t) (s:=s) (r0:=l) (Rs:=hisB l st) (r:=zAf l st) (m:=m) o.key (noughtsB o.n) (by omega) (by omega)
  have e1:putR (zAf l st) o.key (noughtsB o.n)=zAf l (st++[⟨false,o.key,(noughtsB o.n)⟩]):=(applyB_snoc l st ⟨false,o.key,(noughtsB o.n)⟩).symm
  rw [← hisB_next l st ⟨false,o.key,(noughtsB o.n)⟩,e1] at cP
  have hs:PlI l (st++[(⟨false,o.key,(noughtsB o.n)⟩:BOp)]) false (n+zBa o):=pl.step _ (by have:=(heavyW_key hw).1;omega) (by
   have k0:=(heavyW_key hw).1
   have k2:=(heavyW_key hw).2 hk
   have k3:=noughtsB_len o.n
   have k1:=opW_put o.key (noughtsB o.n) (by omega) (by omega)
   omega)
  have c:=dbig14_ct (W:=W) (w:=w) (s:=s) (t:=t) (ba:=ba) (bc:=bc) (sa:=sa) (sc:=sc) (q0:=i0.q) (q1:=i1.q) (r0:=i0.r) (r1:=i1.r) (bn:=l.length) (st:=st) o hk hon (by omega) (noughtsB o.n) rfl cP
  refine Ct.re (c.frm [StQ s 400 k l,BP,itP 98 i0,itP 99 i1]) (fun R=>?_) (fun _=>rfl) (fun y R g q=>?_)
  ·have e:∀ g,zAj ([wP w s t ba l.length bc sa st.length sc false i0.q i1.q i0.r i1.r,TxBM M t s l (hisB l st) (zAf l st) m,StQ s 400 k l,BP,opP (sa,sc) st,itP 98 i0,itP 99 i1]++R) g→zAj ([wP w s t ba l.length bc sa st.length sc false i0.q i1.q i0.r i1.r,TxBM M t s l (hisB l st) (zAf l st) m,opP (sa,sc) st]++[StQ s 400 k l,BP,itP 98 i0,itP 99 i1]++R) g:=(xN)
   exact e
  have e:∀ g,zAj ([wP w s t ba l.length bc y.1 (st++[(⟨false,o.key,(noughtsB o.n)⟩:BOp)]).length y.2 false i0.q i1.q i0.r i1.r,TxBM M t s l (hisB l (st++[(⟨false,o.key,(noughtsB o.n)⟩:BOp)])) (zAf l (st++[(⟨false,o.key,(noughtsB o.n)⟩:BOp)])) (m+1),opP y (st++[(⟨false,o.key,(noughtsB o.n)⟩:BOp)])]++[StQ s 400 k l,BP,itP 98 i0,itP 99 i1]++R) g→zAj (plL w s ⟨t,M,BP,ba,bc,y.1,y.2,l,(st++[(⟨false,o.key,(noughtsB o.n)⟩:BOp)]),false,(m+1),k,i0,i1⟩++R) g:=(xN)
  exact pl_in (x:=⟨t,M,BP,ba,bc,y.1,y.2,l,(st++[(⟨false,o.key,(noughtsB o.n)⟩:BOp)]),false,(m+1),k,i0,i1⟩) ⟨lv,sl,hs,(by have:=(heavyW_key hw).1;dsimp only;omega),(by dsimp only;omega),it0,it1⟩ g (e g q)
 |true=>
  have cP:=txputN_end (W:=W) (M:=M) (t:=t) (s:=s) (F:=F) hE o.key (noughtsB o.n)
  have c:=dbig14_end (W:=W) (w:=w) (s:=s) (t:=t) (ba:=ba) (bc:=bc) (sa:=sa) (sc:=sc) (q0:=i0.q) (q1:=i1.q) (r0:=i0.r) (r1:=i1.r) (bn:=l.length) (sn:=st.length) o hk hE hon (noughtsB o.n) rfl cP
  refine Ct.re (c.frm [StQ s 400 k l,BP,opP (sa,sc) st,itP 98 i0,itP 99 i1]) (fun R=>?_) (fun _=>rfl) (fun _ R g q=>?_)
  ·have e:∀ g,zAj ([wP w s t ba l.length bc sa st.length sc true i0.q i1.q i0.r i1.r,TxE M t s,StQ s 400 k l,BP,opP (sa,sc) st,itP 98 i0,itP 99 i1]++R) g→zAj ([wP w s t ba l.length bc sa st.length sc true i0.q i1.q i0.r i1.r,TxE M t s]++[StQ s 400 k l,BP,opP (sa,sc) st,itP 98 i0,itP 99 i1]++R) g:=(xN)
   exact e
  have e:∀ g,zAj ([wP w s t ba l.length bc sa st.length sc true i0.q i1.q i0.r i1.r,TxE M t s]++[StQ s 400 k l,BP,opP (sa,sc) st,itP 98 i0,itP 99 i1]++R) g→zAj (plL w s ⟨t,M,BP,ba,bc,sa,sc,l,st,true,m,k,i0,i1⟩++R) g:=(xN)
  exact pl_in (x:=⟨t,M,BP,ba,bc,sa,sc,l,st,true,m,k,i0,i1⟩) ⟨lv,sl,pl',(Nat.le_add_right_of_le mn),(by dsimp only;omega),it0,it1⟩ g (e g q)
theorem pl_none {x:PlX} (hx:PlOk W n x) (o:TOp) (k1:o.kind≠1) (k2:o.kind≠2) (k3:o.kind≠3) (k4:o.kind≠4) (k5:o.kind≠5) (k6:o.kind≠6) (k7:o.kind≠7) (k8:o.kind≠8) (k9:o.kind≠9) (k10:o.kind≠10) (k11:o.kind≠11) (k12:o.kind≠12) (k13:o.kind≠13) (_hn:n+zBa o≤20000) :
 Ct Tryz.prog W 8 [.pointer (some ⟨w,0,none⟩),.agg (topC o).toArray] (plL w s x) (fun _:Unit=>.bool true) (fun _=>[PlP W w s (n+zBa o)]):=by
 have c:=dnone14_ct (W:=W) (w:=w) (s:=s) (t:=x.t) (ba:=x.ba) (bn:=x.l.length) (bc:=x.bc) (sa:=x.sa) (sn:=x.st.length) (sc:=x.sc) (e:=x.ended) (q0:=x.i0.q) (q1:=x.i1.q) (r0:=x.i0.r) (r1:=x.i1.r) o k1 k2 k3 k4 k5 k6 k7 k8 k9 k10 k11 k12 k13
 refine Ct.re (c.frm [txX s x,StQ s 400 x.k x.l,x.BP,opP (x.sa,x.sc) x.st,itP 98 x.i0,itP 99 x.i1]) (fun R g q=>q) (fun _=>rfl) (fun _ R g q=>?_)
 exact pl_in (x:=x) ⟨hx.lv,hx.sl,hx.pl.mono (Nat.le_add_right _ _),Nat.le_add_right_of_le hx.mn,Nat.le_trans hx.kn (by omega),hx.it0,hx.it1⟩ g q
end
end Go.Proofs.YtgipenahkmbelaaGreatDoor
