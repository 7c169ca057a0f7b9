/-
  AvP.
-/
import Derived.Test.YtnkhohfbijkohaaGreatDoorTCL
set_option maxHeartbeats 64000000
namespace Go.Proofs.YtnkhohfbijkohaaGreatDoor
open Go Go.RowKit
inductive Tr where
 |nil
 |node (l:Tr) (k v:List UInt8) (r:Tr) (h s:Nat)
namespace Tr
def tall:Tr→Nat
 |nil=>0
 |node _ _ _ _ h _=>h
def cnt:Tr→Nat
 |nil=>0
 |node _ _ _ _ _ s=>s
def rows:Tr→Rows
 |nil=>[]
 |node l k v r _ _=>l.rows++(k,v)::r.rows
def join (l:Tr) (k v:List UInt8) (r:Tr):Tr:=node l k v r (max l.tall r.tall+1) (l.cnt+r.cnt+1)
def level (l:Tr) (k v:List UInt8) (r:Tr):Tr:=
 if r.tall+1<l.tall then match l with
  |node ll lk lv lr _ _=>if lr.tall≤ll.tall then join ll lk lv (join lr k v r) else match lr with
   |node ml mk mv mr _ _=>join (join ll lk lv ml) mk mv (join mr k v r)
   |nil=>nil
  |nil=>nil
 else if l.tall+1<r.tall then match r with
  |node rl rk rv rr _ _=>if rl.tall≤rr.tall then join (join l k v rl) rk rv rr else match rl with
   |node ml mk mv mr _ _=>join (join l k v ml) mk mv (join mr rk rv rr)
   |nil=>nil
  |nil=>nil
 else join l k v r
def get:Tr→List UInt8→Option (List UInt8)
 |nil,_=>none
 |node l k v r _ _,x=>if Op.bytesLess x k=true then l.get x else if Op.bytesLess k x=true then r.get x else some v
def put:Tr→List UInt8→List UInt8→Tr
 |nil,x,y=>join nil x y nil
 |node l k v r _ _,x,y=>if Op.bytesLess x k=true then level (l.put x y) k v r else if Op.bytesLess k x=true then level l k v (r.put x y) else join l x y r
def first:Tr→List UInt8 × List UInt8
 |nil=>([],[])
 |node nil k v _ _ _=>(k,v)
 |node l _ _ _ _ _=>l.first
def remove:Tr→List UInt8→Tr
 |nil,_=>nil
 |node l k v r _ _,x=>if Op.bytesLess x k=true then level (l.remove x) k v r else if Op.bytesLess k x=true then level l k v (r.remove x) else match l,r with
  |nil,r=>r
  |l,nil=>l
  |l,r=>level l r.first.1 r.first.2 (r.remove r.first.1)
def Ok:Tr→Prop
 |nil=>True
 |node l _ _ r h s=>l.Ok∧r.Ok∧h=max l.tall r.tall+1∧s=l.cnt+r.cnt+1∧l.tall≤r.tall+1∧r.tall≤l.tall+1
theorem t0:nil.tall=0:=rfl
theorem tn (l:Tr) (k v:List UInt8) (r:Tr) (h s:Nat):(node l k v r h s).tall=h:=rfl
theorem rn (l:Tr) (k v:List UInt8) (r:Tr) (h s:Nat):(node l k v r h s).rows=l.rows++(k,v)::r.rows:=rfl
theorem jt (l:Tr) (k v:List UInt8) (r:Tr):(join l k v r).tall=max l.tall r.tall+1:=rfl
theorem jr (l:Tr) (k v:List UInt8) (r:Tr):(join l k v r).rows=l.rows++(k,v)::r.rows:=rfl
theorem cnt_rows:∀ {t:Tr},t.Ok→t.cnt=t.rows.length
 |nil,_=>rfl
 |node l k v r h s,⟨h1,h2,_,h4,_⟩=>by
  rw [rows,List.length_append,List.length_cons,← cnt_rows h1,← cnt_rows h2]
  show s=_
  omega
theorem tall_cnt:∀ {t:Tr},t.Ok→t.tall≤t.cnt
 |nil,_=>Nat.le_refl _
 |node l k v r a b,⟨h1,h2,h3,h4,_⟩=>by
  have:=tall_cnt h1
  have:=tall_cnt h2
  show a≤b
  omega
theorem join_rows (l:Tr) (k v:List UInt8) (r:Tr):(join l k v r).rows=l.rows++(k,v)::r.rows:=rfl
theorem join_ok {l r:Tr} {k v:List UInt8} (hl:l.Ok) (hr:r.Ok) (h1:l.tall≤r.tall+1) (h2:r.tall≤l.tall+1):(join l k v r).Ok:=⟨hl,hr,rfl,rfl,h1,h2⟩
theorem level_ok {l r:Tr} {k v:List UInt8} (hl:l.Ok) (hr:r.Ok) (h1:l.tall≤r.tall+2) (h2:r.tall≤l.tall+2) :
 (level l k v r).Ok∧(level l k v r).rows=l.rows++(k,v)::r.rows∧max l.tall r.tall≤(level l k v r).tall∧(level l k v r).tall≤max l.tall r.tall+1∧(l.tall≤r.tall+1→r.tall≤l.tall+1→(level l k v r).tall=max l.tall r.tall+1):=by
 unfold level
 split
 ·rename_i c
  cases l with
  |nil=>simp only [t0] at c;omega
  |node ll lk lv lr lh ls=>
   obtain ⟨a1,a2,a3,a4,a5,a6⟩:=hl
   simp only [tn] at c h1 h2
   dsimp only
   split
   ·rename_i c2
    refine ⟨join_ok a1 (join_ok a2 hr (by omega) (by omega)) ?_ ?_,?_,?_,?_,?_⟩ <;> (first|(simp only [jt,tn];omega)|(simp only [jr,rn,List.append_assoc,List.cons_append]))
   ·rename_i c2
    cases lr with
    |nil=>simp only [t0] at c2;omega
    |node ml mk mv mr mh ms=>
     obtain ⟨b1,b2,b3,b4,b5,b6⟩:=a2
     simp only [tn] at c2 a3 a5 a6
     refine ⟨join_ok (join_ok a1 b1 (by omega) (by omega)) (join_ok b2 hr (by omega) (by omega)) ?_ ?_,?_,?_,?_,?_⟩ <;> (first|(simp only [jt,tn];omega)|(simp only [jr,rn,List.append_assoc,List.cons_append]))
 ·rename_i c
  split
  ·rename_i c'
   cases r with
   |nil=>simp only [t0] at c';omega
   |node rl rk rv rr rh rs=>
    obtain ⟨a1,a2,a3,a4,a5,a6⟩:=hr
    simp only [tn] at c c' h1 h2
    dsimp only
    split
    ·rename_i c2
     refine ⟨join_ok (join_ok hl a1 (by omega) (by omega)) a2 ?_ ?_,?_,?_,?_,?_⟩ <;> (first|(simp only [jt,tn];omega)|(simp only [jr,rn,List.append_assoc,List.cons_append]))
    ·rename_i c2
     cases rl with
     |nil=>simp only [t0] at c2;omega
     |node ml mk mv mr mh ms=>
      obtain ⟨b1,b2,b3,b4,b5,b6⟩:=a1
      simp only [tn] at c2 a3 a5 a6
      refine ⟨join_ok (join_ok hl b1 (by omega) (by omega)) (join_ok b2 a2 (by omega) (by omega)) ?_ ?_,?_,?_,?_,?_⟩ <;> (first|(simp only [jt,tn];omega)|(simp only [jr,rn,List.append_assoc,List.cons_append]))
  ·refine ⟨join_ok hl hr (by omega) (by omega),rfl,?_,?_,fun _ _=>?_⟩ <;> first|(simp only [jt];done)|(simp only [jt];omega)
end Tr
theorem tl_ne {a b:List UInt8} (h:Op.bytesLess a b=true):a≠b:=fun e=>by rw [e,tl_irr] at h;cases h
theorem ris_mid {A B:Rows} {p:List UInt8 × List UInt8}:RisR (A++p::B)↔RisR A∧RisR B∧(∀ a ∈ A,Op.bytesLess a.1 p.1=true)∧(∀ b ∈ B,Op.bytesLess p.1 b.1=true):=by
 unfold RisR Rising
 rw [List.pairwise_append,List.pairwise_cons]
 constructor
 ·rintro ⟨h1,⟨h2,h3⟩,h4⟩
  exact ⟨h1,h3,fun a ha=>h4 a ha p (List.mem_cons_self ..),h2⟩
 ·rintro ⟨h1,h2,h3,h4⟩
  refine ⟨h1,⟨h4,h2⟩,fun a ha b hb=>?_⟩
  rcases List.mem_cons.1 hb with e|e
  ·rw [e];exact h3 a ha
  ·exact tl_tr (h3 a ha) (h4 b e)
theorem lk_above {r:Rows} {k:List UInt8} (h:∀ q ∈ r,Op.bytesLess q.1 k=true):lk r k=none:=lk_none.2 fun p hp e=>by have:=h p hp;rw [e,tl_irr] at this;cases this
theorem lk_mid {A B:Rows} {p:List UInt8 × List UInt8} (h:RisR (A++p::B)) (k:List UInt8):lk (A++p::B) k=if Op.bytesLess k p.1=true then lk A k else if Op.bytesLess p.1 k=true then lk B k else some p.2:=by
 obtain ⟨_,_,h3,h4⟩:=ris_mid.1 h
 rw [lk_append,lk_cons]
 by_cases c:Op.bytesLess k p.1=true
 ·have e1:lk B k=none:=lk_below fun q hq=>tl_tr c (h4 q hq)
  rw [if_pos c,if_neg (fun e=>tl_ne c e.symm),e1,Option.or_none]
 ·rw [if_neg c]
  by_cases c2:Op.bytesLess p.1 k=true
  ·have e1:lk A k=none:=lk_above fun q hq=>tl_tr (h3 q hq) c2
   rw [if_pos c2,if_neg (tl_ne c2),e1,Option.none_or]
  ·have e:p.1=k:=by
    by_cases q:p.1=k
    ·exact q
    ·rcases tl_tot _ _ q with d|d
     ·exact absurd d c2
     ·exact absurd d c
   have e1:lk A k=none:=lk_above fun q hq=>by rw [← e];exact h3 q hq
   rw [if_neg c2,if_pos e,e1,Option.none_or]
theorem putR_key {r:Rows} (h:RisR r) {k v:List UInt8} {q:List UInt8 × List UInt8} (hq:q ∈ putR r k v):q.1=k∨∃ u,(q.1,u) ∈ r:=by
 have:=(rows_mem (putR_ris h k v) q.1 q.2).1 hq
 rw [lk_putR h] at this
 split at this
 ·rename_i e;exact .inl e
 ·exact .inr ⟨_,lk_mem this⟩
theorem putR_l {A B:Rows} {p:List UInt8 × List UInt8} {k:List UInt8} (v:List UInt8) (h:RisR (A++p::B)) (c:Op.bytesLess k p.1=true):putR (A++p::B) k v=putR A k v++p::B:=by
 obtain ⟨h1,h2,h3,h4⟩:=ris_mid.1 h
 have hr:RisR (putR A k v++p::B):=ris_mid.2 ⟨putR_ris h1 k v,h2,fun a ha=>by
  rcases putR_key h1 ha with e|⟨u,hu⟩
  ·rw [e];exact c
  ·exact h3 (a.1,u) hu,h4⟩
 refine rows_ext (putR_ris h k v) hr fun j=>?_
 rw [lk_putR h,lk_mid hr,lk_mid h,lk_putR h1]
 by_cases e:j=k
 ·rw [if_pos e,e,if_pos c,if_pos rfl]
 ·rw [if_neg e,if_neg e]
theorem putR_r {A B:Rows} {p:List UInt8 × List UInt8} {k:List UInt8} (v:List UInt8) (h:RisR (A++p::B)) (c:Op.bytesLess p.1 k=true):putR (A++p::B) k v=A++p::putR B k v:=by
 obtain ⟨h1,h2,h3,h4⟩:=ris_mid.1 h
 have hr:RisR (A++p::putR B k v):=ris_mid.2 ⟨h1,putR_ris h2 k v,h3,fun a ha=>by
  rcases putR_key h2 ha with e|⟨u,hu⟩
  ·rw [e];exact c
  ·exact h4 (a.1,u) hu⟩
 refine rows_ext (putR_ris h k v) hr fun j=>?_
 rw [lk_putR h,lk_mid hr,lk_mid h,lk_putR h2]
 by_cases e:j=k
 ·rw [if_pos e,e,if_neg (by rw [tl_asym c];decide),if_pos c,if_pos rfl]
 ·rw [if_neg e,if_neg e]
theorem putR_m {A B:Rows} {k u:List UInt8} (v:List UInt8) (h:RisR (A++(k,u)::B)):putR (A++(k,u)::B) k v=A++(k,v)::B:=by
 obtain ⟨h1,h2,h3,h4⟩:=ris_mid.1 h
 have hr:RisR (A++(k,v)::B):=ris_mid.2 ⟨h1,h2,h3,h4⟩
 refine rows_ext (putR_ris h k v) hr fun j=>?_
 rw [lk_putR h,lk_mid hr,lk_mid h]
 by_cases e:j=k
 ·rw [if_pos e,e,if_neg (by rw [tl_irr];decide),if_neg (by rw [tl_irr];decide)]
 ·rw [if_neg e]
  dsimp only
  split
  ·rfl
  split
  ·rfl
  ·rename_i c c2
   rcases tl_tot _ _ e with d|d
   ·exact absurd d c
   ·exact absurd d c2
theorem mdel_none {r:Rows} {k:List UInt8} (h:lk r k=none):mdel r k=r:=List.filter_eq_self.2 fun p hp=>by simpa using lk_none.1 h p hp
theorem mdel_mid (A B:Rows) (p:List UInt8 × List UInt8) (k:List UInt8):mdel (A++p::B) k=mdel A k++(if p.1=k then mdel B k else p::mdel B k):=by
 unfold mdel
 rw [List.filter_append,List.filter_cons]
 by_cases e:p.1=k <;> simp [e]
namespace Tr
theorem get_rows:∀ {t:Tr},RisR t.rows→∀ k,t.get k=lk t.rows k
 |nil,_,_=>rfl
 |node l k v r a b,h,x=>by
  obtain ⟨h1,h2,_,_⟩:=ris_mid.1 h
  rw [rows,lk_mid h,get,get_rows h1,get_rows h2]
theorem put_ok:∀ {t:Tr},t.Ok→RisR t.rows→∀ k v,(t.put k v).Ok∧(t.put k v).rows=putR t.rows k v∧t.tall≤(t.put k v).tall∧(t.put k v).tall≤t.tall+1
 |nil,_,_,k,v=>⟨join_ok trivial trivial (by decide) (by decide),rfl,Nat.zero_le _,Nat.le_refl _⟩
 |node l k v r a b,⟨o1,o2,o3,o4,o5,o6⟩,h,x,y=>by
  obtain ⟨h1,h2,h3,h4⟩:=ris_mid.1 h
  unfold put
  split
  ·rename_i c
   obtain ⟨i1,i2,i3,i4⟩:=put_ok o1 h1 x y
   obtain ⟨q1,q2,q3,q4,q5⟩:=level_ok (k:=k) (v:=v) i1 o2 (by omega) (by omega)
   refine ⟨q1,?_,?_,?_⟩
   ·rw [q2,i2,rows,putR_l _ h c]
   ·show a≤_
    by_cases e:(l.put x y).tall≤r.tall+1
    ·have:=q5 e (by omega);omega
    ·omega
   ·show _≤a+1
    omega
  ·rename_i c
   split
   ·rename_i c2
    obtain ⟨i1,i2,i3,i4⟩:=put_ok o2 h2 x y
    obtain ⟨q1,q2,q3,q4,q5⟩:=level_ok (k:=k) (v:=v) o1 i1 (by omega) (by omega)
    refine ⟨q1,?_,?_,?_⟩
    ·rw [q2,i2,rows,putR_r _ h c2]
    ·show a≤_
     by_cases e:(r.put x y).tall≤l.tall+1
     ·have:=q5 (by omega) e;omega
     ·omega
    ·show _≤a+1
     omega
   ·rename_i c2
    have e:x=k:=by
     by_cases q:x=k
     ·exact q
     ·rcases tl_tot _ _ q with d|d
      ·exact absurd d c
      ·exact absurd d c2
    subst e
    refine ⟨join_ok o1 o2 o5 o6,?_,?_,?_⟩
    ·rw [join_rows,rows,putR_m _ h]
    ·show a≤max l.tall r.tall+1;omega
    ·show max l.tall r.tall+1≤a+1;omega
theorem first_rows:∀ {t:Tr},t≠nil→∃ R,t.rows=t.first::R
 |nil,h=>absurd rfl h
 |node nil k v r _ _,_=>⟨r.rows,rfl⟩
 |node (node l k v r a b) k' v' r' a' b',_=>by
  obtain ⟨R,hR⟩:=first_rows (t:=node l k v r a b) (fun e=>by cases e)
  refine ⟨R++(k',v')::r'.rows,?_⟩
  rw [rows,hR];rfl
theorem remove_ok:∀ {t:Tr},t.Ok→RisR t.rows→∀ k,(lk t.rows k).isSome=true→(t.remove k).Ok∧(t.remove k).rows=mdel t.rows k∧(t.remove k).tall≤t.tall∧t.tall≤(t.remove k).tall+1
 |nil,_,_,k,h=>by cases h
 |node l k v r a b,⟨o1,o2,o3,o4,o5,o6⟩,h,x,hx=>by
  obtain ⟨h1,h2,h3,h4⟩:=ris_mid.1 h
  rw [rows,lk_mid h] at hx
  unfold remove
  split
  ·rename_i c
   rw [if_pos c] at hx
   obtain ⟨i1,i2,i3,i4⟩:=remove_ok o1 h1 x hx
   obtain ⟨q1,q2,q3,q4,q5⟩:=level_ok (k:=k) (v:=v) i1 o2 (by omega) (by omega)
   refine ⟨q1,?_,?_,?_⟩
   ·rw [q2,i2,rows,mdel_mid,if_neg (fun e=>tl_ne c e.symm),mdel_none (r:=r.rows) (lk_below fun q hq=>tl_tr c (h4 q hq))]
   ·show _≤a
    by_cases e:r.tall≤(l.remove x).tall+1
    ·have:=q5 (by omega) e;omega
    ·omega
   ·show a≤_
    by_cases e:r.tall≤(l.remove x).tall+1
    ·have:=q5 (by omega) e;omega
    ·omega
  ·rename_i c
   rw [if_neg c] at hx
   split
   ·rename_i c2
    rw [if_pos c2] at hx
    obtain ⟨i1,i2,i3,i4⟩:=remove_ok o2 h2 x hx
    obtain ⟨q1,q2,q3,q4,q5⟩:=level_ok (k:=k) (v:=v) o1 i1 (by omega) (by omega)
    refine ⟨q1,?_,?_,?_⟩
    ·rw [q2,i2,rows,mdel_mid,if_neg (fun e=>tl_ne c2 e),mdel_none (r:=l.rows) (lk_above fun q hq=>tl_tr (h3 q hq) c2)]
    ·show _≤a
     by_cases e:l.tall≤(r.remove x).tall+1
     ·have:=q5 e (by omega);omega
     ·omega
    ·show a≤_
     by_cases e:l.tall≤(r.remove x).tall+1
     ·have:=q5 e (by omega);omega
     ·omega
   ·rename_i c2
    have e:k=x:=by
     by_cases q:k=x
     ·exact q
     ·rcases tl_tot _ _ q with d|d
      ·exact absurd d c2
      ·exact absurd d c
    subst e
    have dl:mdel l.rows k=l.rows:=mdel_none (lk_above h3)
    have dr:mdel r.rows k=r.rows:=mdel_none (lk_below h4)
    have hdel:mdel (l.rows++(k,v)::r.rows) k=l.rows++r.rows:=by rw [mdel_mid,if_pos rfl,dl,dr]
    split
    ·refine ⟨o2,?_,?_,?_⟩
     ·rw [rows,hdel];rfl
     ·show _≤a;omega
     ·show a≤_;simp only [t0] at o3 o5 o6;omega
    ·refine ⟨o1,?_,?_,?_⟩
     ·rw [rows,hdel];simp [rows]
     ·show _≤a;omega
     ·show a≤_;simp only [t0] at o3 o5 o6 ⊢;omega
    ·rename_i hl hr
     obtain ⟨R,hR⟩:=first_rows hr
     have hf:(lk r.rows r.first.1).isSome=true:=by rw [hR,lk_cons,if_pos rfl];rfl
     obtain ⟨i1,i2,i3,i4⟩:=remove_ok o2 h2 r.first.1 hf
     obtain ⟨q1,q2,q3,q4,q5⟩:=level_ok (k:=r.first.1) (v:=r.first.2) o1 i1 (by omega) (by omega)
     refine ⟨q1,?_,?_,?_⟩
     ·rw [q2,i2,rows,hdel,hR]
      congr 1
      have hn:mdel R r.first.1=R:=by
       rw [hR] at h2
       exact mdel_none (lk_below (ris_cons h2).2)
      have:mdel (r.first::R) r.first.1=R:=by
       have:=mdel_mid [] R r.first r.first.1
       rw [if_pos rfl,hn] at this
       exact this
      rw [this]
     ·show _≤a
      by_cases e:l.tall≤(r.remove r.first.1).tall+1
      ·have:=q5 e (by omega);omega
      ·omega
     ·show a≤_
      by_cases e:l.tall≤(r.remove r.first.1).tall+1
      ·have:=q5 e (by omega);omega
      ·omega
end Tr
end Go.Proofs.YtnkhohfbijkohaaGreatDoor
