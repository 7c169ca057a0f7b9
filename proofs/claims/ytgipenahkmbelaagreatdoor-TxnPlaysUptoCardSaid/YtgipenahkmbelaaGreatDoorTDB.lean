/-
  AvP, TbP, TbW1, TbW2.
-/
import Derived.Test.YtgipenahkmbelaaGreatDoorTCJ
import Derived.Test.YtgipenahkmbelaaGreatDoorTCY
set_option maxHeartbeats 64000000
namespace Go.Proofs.YtgipenahkmbelaaGreatDoor
open Go Go.RowKit
abbrev plTDB0:Pl:=(.op 0 (.op 1 (.op 2 (.op 3 (.op 5 (.op 6 (.op 7 (.op 8 (.ef 4 [8,7,6,5] (.ef 9 [] (.op 10 .nil)))))))))))
abbrev plTDB1:Pl:=(.op 0 (.op 1 (.op 2 (.op 3 (.op 4 (.op 5 (.op 6 (.op 7 (.op 8 (.op 9 (.op 10 (.op 11 (.op 12 (.op 13 (.op 14 (.op 15 (.op 16 (.op 17 (.op 18 (.ef 19 [11,10,9,8,7,6,5,4,3,2,1,0] (.ef 20 [] (.op 21 .nil))))))))))))))))))))))
abbrev plTDB2:Pl:=(.op 0 (.op 1 (.op 2 (.op 3 (.op 4 (.op 5 (.op 6 (.op 7 (.op 8 (.op 9 (.op 10 (.op 11 (.op 12 (.op 13 (.op 14 (.op 15 (.op 17 (.op 18 (.op 19 (.op 20 (.op 21 (.op 22 (.op 23 (.op 24 (.op 25 (.op 26 (.op 27 (.op 28 (.op 29 (.op 30 (.op 31 (.ef 16 [31,30,29,28,27,26,25,24,23,22,21,20,19,18,17] (.ef 32 [24,23,22,21,20,19,18,17] (.ef 33 [] (.op 34 .nil)))))))))))))))))))))))))))))))))))
abbrev plTDB3:Pl:=(.op 0 (.op 1 (.op 2 (.op 3 (.op 4 (.op 5 (.op 6 (.op 8 (.op 9 (.op 10 (.op 11 (.op 12 (.op 13 (.op 14 (.op 15 (.op 16 (.op 17 (.op 18 (.op 19 (.ef 7 [19,18,17,16,15,14,13,12,11,10,9,8] (.ef 20 [] (.op 21 .nil))))))))))))))))))))))
abbrev plTDB4:Pl:=(.op 0 (.op 1 (.op 2 (.op 3 (.op 4 (.op 5 (.op 6 (.op 8 (.op 9 (.op 10 (.op 11 (.op 12 (.op 13 (.op 14 (.op 15 (.op 16 (.op 17 (.op 18 (.op 19 (.op 20 (.op 21 (.op 22 (.op 23 (.op 24 (.op 25 (.op 26 (.op 27 (.op 28 (.op 29 (.op 30 (.op 31 (.ef 7 [31,30,29,28,27,26,25,24,23,22,21,20,19,18,17,16,15,14,13,12,11,10,9,8] (.ef 32 [15,14,13,12,11,10,9,8] (.ef 33 [] (.op 34 .nil)))))))))))))))))))))))))))))))))))
inductive Tr where
 |nil
 |node (l:Tr) (k v:List UInt8) (r:Tr) (h s:Nat)
namespace Tr
def tall:Tr→Nat
 |nil=>0
 |node _ _ _ _ h _=>h
def cnt:Tr→Nat
 |nil=>0
 |node _ _ _ _ _ s=>s
def rows:Tr→Rows
 |nil=>[]
 |node l k v r _ _=>l.rows++(k,v)::r.rows
def join (l:Tr) (k v:List UInt8) (r:Tr):Tr:=node l k v r (max l.tall r.tall+1) (l.cnt+r.cnt+1)
def level (l:Tr) (k v:List UInt8) (r:Tr):Tr:=
 if r.tall+1<l.tall then match l with
  |node ll lk lv lr _ _=>if lr.tall≤ll.tall then join ll lk lv (join lr k v r) else match lr with
   |node ml mk mv mr _ _=>join (join ll lk lv ml) mk mv (join mr k v r)
   |nil=>nil
  |nil=>nil
 else if l.tall+1<r.tall then match r with
  |node rl rk rv rr _ _=>if rl.tall≤rr.tall then join (join l k v rl) rk rv rr else match rl with
   |node ml mk mv mr _ _=>join (join l k v ml) mk mv (join mr rk rv rr)
   |nil=>nil
  |nil=>nil
 else join l k v r
def get:Tr→List UInt8→Option (List UInt8)
 |nil,_=>none
 |node l k v r _ _,x=>if Op.bytesLess x k=true then l.get x else if Op.bytesLess k x=true then r.get x else some v
def put:Tr→List UInt8→List UInt8→Tr
 |nil,x,y=>join nil x y nil
 |node l k v r _ _,x,y=>if Op.bytesLess x k=true then level (l.put x y) k v r else if Op.bytesLess k x=true then level l k v (r.put x y) else join l x y r
def first:Tr→List UInt8 × List UInt8
 |nil=>([],[])
 |node nil k v _ _ _=>(k,v)
 |node l _ _ _ _ _=>l.first
def remove:Tr→List UInt8→Tr
 |nil,_=>nil
 |node l k v r _ _,x=>if Op.bytesLess x k=true then level (l.remove x) k v r else if Op.bytesLess k x=true then level l k v (r.remove x) else match l,r with
  |nil,r=>r
  |l,nil=>l
  |l,r=>level l r.first.1 r.first.2 (r.remove r.first.1)
def Ok:Tr→Prop
 |nil=>True
 |node l _ _ r h s=>l.Ok∧r.Ok∧h=max l.tall r.tall+1∧s=l.cnt+r.cnt+1∧l.tall≤r.tall+1∧r.tall≤l.tall+1
theorem t0:nil.tall=0:=rfl
theorem tn (l:Tr) (k v:List UInt8) (r:Tr) (h s:Nat):(node l k v r h s).tall=h:=rfl
theorem rn (l:Tr) (k v:List UInt8) (r:Tr) (h s:Nat):(node l k v r h s).rows=l.rows++(k,v)::r.rows:=rfl
theorem jt (l:Tr) (k v:List UInt8) (r:Tr):(join l k v r).tall=max l.tall r.tall+1:=rfl
theorem jr (l:Tr) (k v:List UInt8) (r:Tr):(join l k v r).rows=l.rows++(k,v)::r.rows:=rfl
theorem cnt_rows:∀ {t:Tr},t.Ok→t.cnt=t.rows.length
 |nil,_=>rfl
 |node l k v r h s,⟨h1,h2,_,h4,_⟩=>by
  rw [rows,List.length_append,List.length_cons,← cnt_rows h1,← cnt_rows h2]
  show s=_
  omega
theorem tall_cnt:∀ {t:Tr},t.Ok→t.tall≤t.cnt
 |nil,_=>Nat.le_refl _
 |node l k v r a b,⟨h1,h2,h3,h4,_⟩=>by
  have:=tall_cnt h1
  have:=tall_cnt h2
  show a≤b
  omega
theorem join_rows (l:Tr) (k v:List UInt8) (r:Tr):(join l k v r).rows=l.rows++(k,v)::r.rows:=rfl
theorem join_ok {l r:Tr} {k v:List UInt8} (hl:l.Ok) (hr:r.Ok) (h1:l.tall≤r.tall+1) (h2:r.tall≤l.tall+1):(join l k v r).Ok:=⟨hl,hr,rfl,rfl,h1,h2⟩
theorem level_ok {l r:Tr} {k v:List UInt8} (hl:l.Ok) (hr:r.Ok) (h1:l.tall≤r.tall+2) (h2:r.tall≤l.tall+2) :
 (level l k v r).Ok∧(level l k v r).rows=l.rows++(k,v)::r.rows∧max l.tall r.tall≤(level l k v r).tall∧(level l k v r).tall≤max l.tall r.tall+1∧(l.tall≤r.tall+1→r.tall≤l.tall+1→(level l k v r).tall=max l.tall r.tall+1):=by
 unfold level
 split
 ·rename_i c
  cases l with
  |nil=>simp only [t0] at c;omega
  |node ll lk lv lr lh ls=>
   obtain ⟨a1,a2,a3,a4,a5,a6⟩:=hl
   simp only [tn] at c h1 h2
   dsimp only
   split
   ·rename_i c2
    refine ⟨join_ok a1 (join_ok a2 hr (by omega) (by omega)) ?_ ?_,?_,?_,?_,?_⟩ <;> (first|(simp only [jt,tn];omega)|(simp only [jr,rn,List.append_assoc,List.cons_append]))
   ·rename_i c2
    cases lr with
    |nil=>simp only [t0] at c2;omega
    |node ml mk mv mr mh ms=>
     obtain ⟨b1,b2,b3,b4,b5,b6⟩:=a2
     simp only [tn] at c2 a3 a5 a6
     refine ⟨join_ok (join_ok a1 b1 (by omega) (by omega)) (join_ok b2 hr (by omega) (by omega)) ?_ ?_,?_,?_,?_,?_⟩ <;> (first|(simp only [jt,tn];omega)|(simp only [jr,rn,List.append_assoc,List.cons_append]))
 ·rename_i c
  split
  ·rename_i c'
   cases r with
   |nil=>simp only [t0] at c';omega
   |node rl rk rv rr rh rs=>
    obtain ⟨a1,a2,a3,a4,a5,a6⟩:=hr
    simp only [tn] at c c' h1 h2
    dsimp only
    split
    ·rename_i c2
     refine ⟨join_ok (join_ok hl a1 (by omega) (by omega)) a2 ?_ ?_,?_,?_,?_,?_⟩ <;> (first|(simp only [jt,tn];omega)|(simp only [jr,rn,List.append_assoc,List.cons_append]))
    ·rename_i c2
     cases rl with
     |nil=>simp only [t0] at c2;omega
     |node ml mk mv mr mh ms=>
      obtain ⟨b1,b2,b3,b4,b5,b6⟩:=a1
      simp only [tn] at c2 a3 a5 a6
      refine ⟨join_ok (join_ok hl b1 (by omega) (by omega)) (join_ok b2 a2 (by omega) (by omega)) ?_ ?_,?_,?_,?_,?_⟩ <;> (first|(simp only [jt,tn];omega)|(simp only [jr,rn,List.append_assoc,List.cons_append]))
  ·refine ⟨join_ok hl hr (by omega) (by omega),rfl,?_,?_,fun _ _=>?_⟩ <;> first|(simp only [jt];done)|(simp only [jt];omega)
end Tr
theorem tl_ne {a b:List UInt8} (h:Op.bytesLess a b=true):a≠b:=fun e=>by rw [e,tl_irr] at h;cases h
theorem ris_mid {A B:Rows} {p:List UInt8 × List UInt8}:RisR (A++p::B)↔RisR A∧RisR B∧(∀ a ∈ A,Op.bytesLess a.1 p.1=true)∧(∀ b ∈ B,Op.bytesLess p.1 b.1=true):=by
 unfold RisR Rising
 rw [List.pairwise_append,List.pairwise_cons]
 constructor
 ·rintro ⟨h1,⟨h2,h3⟩,h4⟩
  exact ⟨h1,h3,fun a ha=>h4 a ha p (List.mem_cons_self ..),h2⟩
 ·rintro ⟨h1,h2,h3,h4⟩
  refine ⟨h1,⟨h4,h2⟩,fun a ha b hb=>?_⟩
  rcases List.mem_cons.1 hb with e|e
  ·rw [e];exact h3 a ha
  ·exact tl_tr (h3 a ha) (h4 b e)
theorem lk_above {r:Rows} {k:List UInt8} (h:∀ q ∈ r,Op.bytesLess q.1 k=true):lk r k=none:=lk_none.2 fun p hp e=>by have:=h p hp;rw [e,tl_irr] at this;cases this
theorem lk_mid {A B:Rows} {p:List UInt8 × List UInt8} (h:RisR (A++p::B)) (k:List UInt8):lk (A++p::B) k=if Op.bytesLess k p.1=true then lk A k else if Op.bytesLess p.1 k=true then lk B k else some p.2:=by
 obtain ⟨_,_,h3,h4⟩:=ris_mid.1 h
 rw [lk_append,lk_cons]
 by_cases c:Op.bytesLess k p.1=true
 ·have e1:lk B k=none:=lk_below fun q hq=>tl_tr c (h4 q hq)
  rw [if_pos c,if_neg (fun e=>tl_ne c e.symm),e1,Option.or_none]
 ·rw [if_neg c]
  by_cases c2:Op.bytesLess p.1 k=true
  ·have e1:lk A k=none:=lk_above fun q hq=>tl_tr (h3 q hq) c2
   rw [if_pos c2,if_neg (tl_ne c2),e1,Option.none_or]
  ·have e:p.1=k:=by
    by_cases q:p.1=k
    ·exact q
    ·rcases tl_tot _ _ q with d|d
     ·exact absurd d c2
     ·exact absurd d c
   have e1:lk A k=none:=lk_above fun q hq=>by rw [← e];exact h3 q hq
   rw [if_neg c2,if_pos e,e1,Option.none_or]
theorem putR_key {r:Rows} (h:RisR r) {k v:List UInt8} {q:List UInt8 × List UInt8} (hq:q ∈ putR r k v):q.1=k∨∃ u,(q.1,u) ∈ r:=by
 have:=(rows_mem (putR_ris h k v) q.1 q.2).1 hq
 rw [lk_putR h] at this
 split at this
 ·rename_i e;exact .inl e
 ·exact .inr ⟨_,lk_mem this⟩
theorem putR_l {A B:Rows} {p:List UInt8 × List UInt8} {k:List UInt8} (v:List UInt8) (h:RisR (A++p::B)) (c:Op.bytesLess k p.1=true):putR (A++p::B) k v=putR A k v++p::B:=by
 obtain ⟨h1,h2,h3,h4⟩:=ris_mid.1 h
 have hr:RisR (putR A k v++p::B):=ris_mid.2 ⟨putR_ris h1 k v,h2,fun a ha=>by
  rcases putR_key h1 ha with e|⟨u,hu⟩
  ·rw [e];exact c
  ·exact h3 (a.1,u) hu,h4⟩
 refine rows_ext (putR_ris h k v) hr fun j=>?_
 rw [lk_putR h,lk_mid hr,lk_mid h,lk_putR h1]
 by_cases e:j=k
 ·rw [if_pos e,e,if_pos c,if_pos rfl]
 ·rw [if_neg e,if_neg e]
theorem putR_r {A B:Rows} {p:List UInt8 × List UInt8} {k:List UInt8} (v:List UInt8) (h:RisR (A++p::B)) (c:Op.bytesLess p.1 k=true):putR (A++p::B) k v=A++p::putR B k v:=by
 obtain ⟨h1,h2,h3,h4⟩:=ris_mid.1 h
 have hr:RisR (A++p::putR B k v):=ris_mid.2 ⟨h1,putR_ris h2 k v,h3,fun a ha=>by
  rcases putR_key h2 ha with e|⟨u,hu⟩
  ·rw [e];exact c
  ·exact h4 (a.1,u) hu⟩
 refine rows_ext (putR_ris h k v) hr fun j=>?_
 rw [lk_putR h,lk_mid hr,lk_mid h,lk_putR h2]
 by_cases e:j=k
 ·rw [if_pos e,e,if_neg (by rw [tl_asym c];decide),if_pos c,if_pos rfl]
 ·rw [if_neg e,if_neg e]
theorem putR_m {A B:Rows} {k u:List UInt8} (v:List UInt8) (h:RisR (A++(k,u)::B)):putR (A++(k,u)::B) k v=A++(k,v)::B:=by
 obtain ⟨h1,h2,h3,h4⟩:=ris_mid.1 h
 have hr:RisR (A++(k,v)::B):=ris_mid.2 ⟨h1,h2,h3,h4⟩
 refine rows_ext (putR_ris h k v) hr fun j=>?_
 rw [lk_putR h,lk_mid hr,lk_mid h]
 by_cases e:j=k
 ·rw [if_pos e,e,if_neg (by rw [tl_irr];decide),if_neg (by rw [tl_irr];decide)]
 ·rw [if_neg e]
  dsimp only
  split
  ·rfl
  split
  ·rfl
  ·rename_i c c2
   rcases tl_tot _ _ e with d|d
   ·exact absurd d c
   ·exact absurd d c2
theorem mdel_none {r:Rows} {k:List UInt8} (h:lk r k=none):mdel r k=r:=List.filter_eq_self.2 fun p hp=>by simpa using lk_none.1 h p hp
theorem mdel_mid (A B:Rows) (p:List UInt8 × List UInt8) (k:List UInt8):mdel (A++p::B) k=mdel A k++(if p.1=k then mdel B k else p::mdel B k):=by
 unfold mdel
 rw [List.filter_append,List.filter_cons]
 by_cases e:p.1=k <;> simp [e]
namespace Tr
theorem get_rows:∀ {t:Tr},RisR t.rows→∀ k,t.get k=lk t.rows k
 |nil,_,_=>rfl
 |node l k v r a b,h,x=>by
  obtain ⟨h1,h2,_,_⟩:=ris_mid.1 h
  rw [rows,lk_mid h,get,get_rows h1,get_rows h2]
theorem put_ok:∀ {t:Tr},t.Ok→RisR t.rows→∀ k v,(t.put k v).Ok∧(t.put k v).rows=putR t.rows k v∧t.tall≤(t.put k v).tall∧(t.put k v).tall≤t.tall+1
 |nil,_,_,k,v=>⟨join_ok trivial trivial (by decide) (by decide),rfl,Nat.zero_le _,Nat.le_refl _⟩
 |node l k v r a b,⟨o1,o2,o3,o4,o5,o6⟩,h,x,y=>by
  obtain ⟨h1,h2,h3,h4⟩:=ris_mid.1 h
  unfold put
  split
  ·rename_i c
   obtain ⟨i1,i2,i3,i4⟩:=put_ok o1 h1 x y
   obtain ⟨q1,q2,q3,q4,q5⟩:=level_ok (k:=k) (v:=v) i1 o2 (by omega) (by omega)
   refine ⟨q1,?_,?_,?_⟩
   ·rw [q2,i2,rows,putR_l _ h c]
   ·show a≤_
    by_cases e:(l.put x y).tall≤r.tall+1
    ·have:=q5 e (by omega);omega
    ·omega
   ·show _≤a+1
    omega
  ·rename_i c
   split
   ·rename_i c2
    obtain ⟨i1,i2,i3,i4⟩:=put_ok o2 h2 x y
    obtain ⟨q1,q2,q3,q4,q5⟩:=level_ok (k:=k) (v:=v) o1 i1 (by omega) (by omega)
    refine ⟨q1,?_,?_,?_⟩
    ·rw [q2,i2,rows,putR_r _ h c2]
    ·show a≤_
     by_cases e:(r.put x y).tall≤l.tall+1
     ·have:=q5 (by omega) e;omega
     ·omega
    ·show _≤a+1
     omega
   ·rename_i c2
    have e:x=k:=by
     by_cases q:x=k
     ·exact q
     ·rcases tl_tot _ _ q with d|d
      ·exact absurd d c
      ·exact absurd d c2
    subst e
    refine ⟨join_ok o1 o2 o5 o6,?_,?_,?_⟩
    ·rw [join_rows,rows,putR_m _ h]
    ·show a≤max l.tall r.tall+1;omega
    ·show max l.tall r.tall+1≤a+1;omega
theorem first_rows:∀ {t:Tr},t≠nil→∃ R,t.rows=t.first::R
 |nil,h=>absurd rfl h
 |node nil k v r _ _,_=>⟨r.rows,rfl⟩
 |node (node l k v r a b) k' v' r' a' b',_=>by
  obtain ⟨R,hR⟩:=first_rows (t:=node l k v r a b) (fun e=>by cases e)
  refine ⟨R++(k',v')::r'.rows,?_⟩
  rw [rows,hR];rfl
theorem remove_ok:∀ {t:Tr},t.Ok→RisR t.rows→∀ k,(lk t.rows k).isSome=true→(t.remove k).Ok∧(t.remove k).rows=mdel t.rows k∧(t.remove k).tall≤t.tall∧t.tall≤(t.remove k).tall+1
 |nil,_,_,k,h=>by cases h
 |node l k v r a b,⟨o1,o2,o3,o4,o5,o6⟩,h,x,hx=>by
  obtain ⟨h1,h2,h3,h4⟩:=ris_mid.1 h
  rw [rows,lk_mid h] at hx
  unfold remove
  split
  ·rename_i c
   rw [if_pos c] at hx
   obtain ⟨i1,i2,i3,i4⟩:=remove_ok o1 h1 x hx
   obtain ⟨q1,q2,q3,q4,q5⟩:=level_ok (k:=k) (v:=v) i1 o2 (by omega) (by omega)
   refine ⟨q1,?_,?_,?_⟩
   ·rw [q2,i2,rows,mdel_mid,if_neg (fun e=>tl_ne c e.symm),mdel_none (r:=r.rows) (lk_below fun q hq=>tl_tr c (h4 q hq))]
   ·show _≤a
    by_cases e:r.tall≤(l.remove x).tall+1
    ·have:=q5 (by omega) e;omega
    ·omega
   ·show a≤_
    by_cases e:r.tall≤(l.remove x).tall+1
    ·have:=q5 (by omega) e;omega
    ·omega
  ·rename_i c
   rw [if_neg c] at hx
   split
   ·rename_i c2
    rw [if_pos c2] at hx
    obtain ⟨i1,i2,i3,i4⟩:=remove_ok o2 h2 x hx
    obtain ⟨q1,q2,q3,q4,q5⟩:=level_ok (k:=k) (v:=v) o1 i1 (by omega) (by omega)
    refine ⟨q1,?_,?_,?_⟩
    ·rw [q2,i2,rows,mdel_mid,if_neg (fun e=>tl_ne c2 e),mdel_none (r:=l.rows) (lk_above fun q hq=>tl_tr (h3 q hq) c2)]
    ·show _≤a
     by_cases e:l.tall≤(r.remove x).tall+1
     ·have:=q5 e (by omega);omega
     ·omega
    ·show a≤_
     by_cases e:l.tall≤(r.remove x).tall+1
     ·have:=q5 e (by omega);omega
     ·omega
   ·rename_i c2
    have e:k=x:=by
     by_cases q:k=x
     ·exact q
     ·rcases tl_tot _ _ q with d|d
      ·exact absurd d c2
      ·exact absurd d c
    subst e
    have dl:mdel l.rows k=l.rows:=mdel_none (lk_above h3)
    have dr:mdel r.rows k=r.rows:=mdel_none (lk_below h4)
    have hdel:mdel (l.rows++(k,v)::r.rows) k=l.rows++r.rows:=by rw [mdel_mid,if_pos rfl,dl,dr]
    split
    ·refine ⟨o2,?_,?_,?_⟩
     ·rw [rows,hdel];rfl
     ·show _≤a;omega
     ·show a≤_;simp only [t0] at o3 o5 o6;omega
    ·refine ⟨o1,?_,?_,?_⟩
     ·rw [rows,hdel];simp [rows]
     ·show _≤a;omega
     ·show a≤_;simp only [t0] at o3 o5 o6 ⊢;omega
    ·rename_i hl hr
     obtain ⟨R,hR⟩:=first_rows hr
     have hf:(lk r.rows r.first.1).isSome=true:=by rw [hR,lk_cons,if_pos rfl];rfl
     obtain ⟨i1,i2,i3,i4⟩:=remove_ok o2 h2 r.first.1 hf
     obtain ⟨q1,q2,q3,q4,q5⟩:=level_ok (k:=r.first.1) (v:=r.first.2) o1 i1 (by omega) (by omega)
     refine ⟨q1,?_,?_,?_⟩
     ·rw [q2,i2,rows,hdel,hR]
      congr 1
      have hn:mdel R r.first.1=R:=by
       rw [hR] at h2
       exact mdel_none (lk_below (ris_cons h2).2)
      have:mdel (r.first::R) r.first.1=R:=by
       have:=mdel_mid [] R r.first r.first.1
       rw [if_pos rfl,hn] at this
       exact this
      rw [this]
     ·show _≤a
      by_cases e:l.tall≤(r.remove r.first.1).tall+1
      ·have:=q5 e (by omega);omega
      ·omega
     ·show a≤_
      by_cases e:l.tall≤(r.remove r.first.1).tall+1
      ·have:=q5 e (by omega);omega
      ·omega
end Tr
end Go.Proofs.YtgipenahkmbelaaGreatDoor
namespace Go.Proofs.YtgipenahkmbelaaGreatDoor
open Go Go.RowKit
structure Nd where
 b:Nat
 k:List UInt8
 v:List UInt8
 l:Option Addr
 r:Option Addr
 h:Nat
 s:Nat
def ndC (x:Nd):List Value:=[strV x.k,strV x.v,.pointer x.l,.pointer x.r,.int .i64 (x.h:Nat),.int .i64 (x.s:Nat)]
def arP (N:List Nd):SP:=⟨50,0,fun h=>∀ x ∈ N,h x.b=some (.cells (ndC x).toArray 174 (0,0))⟩
theorem arP_up {N:List Nd}:∀ h g,Hl.le h g→(arP N).ok h→(arP N).ok g:=fun _ _ le q x hx=>le _ _ (q x hx)
def TrAt (N:List Nd):Option Addr→Tr→Prop
 |a,.nil=>a=none
 |a,.node l k v r h s=>∃ b al ar,a=some ⟨b,0,none⟩∧⟨b,k,v,al,ar,h,s⟩ ∈ N∧TrAt N al l∧TrAt N ar r
theorem TrAt.mono {N N':List Nd} (h:∀ x ∈ N,x ∈ N'):∀ {t:Tr} {a:Option Addr},TrAt N a t→TrAt N' a t
 |.nil,_,q=>q
 |.node _ _ _ _ _ _,_,⟨b,al,ar,e,hm,q1,q2⟩=>⟨b,al,ar,e,h _ hm,q1.mono h,q2.mono h⟩
section
variable {P:Program} {W:World} {n d:Nat} {E:Env} {H H' R R':List SP} {k:KK} {t u e:TypeId} {x y z:Operand}
theorem zAx {nd:Nd} {N:List Nd} {j:Nat} {v:Value} (hx:Env.ev E x=some (.pointer (some ⟨nd.b,j,none⟩))) [hu:ScIs P t] (hs:Sel (arP N) H R) (hn:nd ∈ N) (hv:(ndC nd)[j]? = some v):Ev P W n E H (.load t x) v:=
 Ev.mk fun op hop ac w p s=>by
  obtain ⟨dd,hu,hd⟩:=hu.h
  obtain ⟨h,ha,l⟩:=s.sel hs arP_up
  have hb:=(l nd.b _ (ha nd hn)).2
  have hc:w.cell? ⟨nd.b,j,none⟩=some v:=by
   have hblk:Blk w nd.b (ndC nd) 174:=hb
   rw [hblk.cell];exact hv
  simp [execOp,hop,p.ev hx,run_loadAt_one w hc hu hd,Result.andThen]
theorem arAdd_star {N:List Nd} {nd:Nd}:∀ g,zAj (zAh nd.b (ndC nd) 174::arP N::H) g→zAj (arP (nd::N)::H) g:=fun g q=>by
 obtain ⟨h1,h2,dj,l1,l2,hA,hH⟩:=(zBp (A:=[zAh nd.b (ndC nd) 174,arP N]) (B:=H) g).1 q
 refine ⟨h1,h2,dj,l1,l2,?_,hH⟩
 obtain ⟨k1,k2,_,m1,m2,c1,c2⟩:=hA
 intro x hx
 rcases List.mem_cons.1 hx with e|e
 ·subst e;exact m1 _ _ c1
 ·exact m2 _ _ (starL_one' arP_up c2 x e)
theorem KJ.arAdd {N:List Nd} (nd:Nd) {g:Nat} {cs:List Value} {T:TypeId} (hg:nd.b=g) (hcs:ndC nd=cs) (hT:T=174) (p:Pick [zAh g cs T,arP N] H R) (h:KJ W n k E (arP (nd::N)::R)):KJ W n k E H:=by
 subst hg hcs hT
 exact ⟨fun a w q s=>h.go a w q ((s.perm (p.perm.append_right _)).mono arAdd_star)⟩
theorem arNil_star:∀ g,zAj H g→zAj (arP []::H) g:=fun g q=>⟨fun _=>none,g,(fun _ _ q=>by cases q),(fun _ _ q=>by cases q),.rfl,(by intro x hx;cases hx),q⟩
theorem KJ.arNil (h:KJ W n k E (arP []::H)):KJ W n k E H:=⟨fun a w q s=>h.go a w q (s.mono arNil_star)⟩
end
abbrev Grew (N:List Nd) (t:Tr):Type:={x:List Nd × Option Addr//(∀ y ∈ N,y ∈ x.1)∧TrAt x.1 x.2 t}
theorem cmpV (a c:List UInt8):(Op.bytesLess a c=true∧Op.bytesLess c a=false)∨(Op.bytesLess a c=false∧Op.bytesLess c a=true)∨(Op.bytesLess a c=false∧Op.bytesLess c a=false):=by
 cases h:Op.bytesLess a c with
 |true=>exact .inl ⟨rfl,tl_asym h⟩
 |false=>cases h2:Op.bytesLess c a with
  |true=>exact .inr (.inl ⟨rfl,rfl⟩)
  |false=>exact .inr (.inr ⟨rfl,rfl⟩)
section
variable {W:World}
def cmpI (a c:List UInt8):Int:=if Op.bytesLess a c=true then -1 else if Op.bytesLess c a=true then 1 else 0
instance:FnIs Tryz.prog 147:=⟨by kernel_rfl⟩
instance:FnIs Tryz.prog 113:=⟨by kernel_rfl⟩
theorem isNaN_ct (a:List UInt8):Ct Tryz.prog W 147 [strV a] [] (fun _:Unit=>.bool false) (fun _=>[]):=by
 refine Ct.enter Tryz.func147 rfl Tryz.ntmps147 (by simp) (fun R=>?_)
 repeat' (first|(refine zBz ?_;refine zAb (Ev_neqS_f rfl rfl rfl) ?_)|refine xst ?_|(refine xsa ?_;intro _)|(refine xsb ?_ ?_ <;>intro _<;>try (exfalso;omega))|refine xsc ?_|fail)
 all_goals (exact xdn ())
theorem compare_ct (a c:List UInt8):Ct Tryz.prog W 113 [strV a,strV c] [] (fun _:Unit=>.int .i64 (cmpI a c)) (fun _=>[]):=by
 have c1:=isNaN_ct (W:=W) a
 have c2:=isNaN_ct (W:=W) c
 have hg:(!(Op.bytesLess a c || decide (a=c)))=Op.bytesLess c a:=by rw [leq_not,Bool.not_not]
 rcases cmpV a c with ⟨h1,h2⟩|⟨h1,h2⟩|⟨h1,h2⟩
 ·have e:cmpI a c=-1:=by unfold cmpI;rw [if_pos h1]
  rw [e]
  refine Ct.enter Tryz.func113 rfl Tryz.ntmps113 (by simp) (fun R=>?_)
  repeat' (first|(refine zAd ?_;first|(refine zAc xE c2 xP rfl (fun _=>?_))|(refine zAc xE c1 xP rfl (fun _=>?_)))|(refine zAq ?_;refine zAb (Ev_lssS_q rfl rfl h1) ?_)|refine xst ?_|(refine xsa ?_;intro _)|(refine xsb ?_ ?_ <;>intro _<;>try (exfalso;omega))|refine xsc ?_|fail)
  all_goals (exact xdn ())
 ·have e:cmpI a c=1:=by unfold cmpI;rw [if_neg (by rw [h1];decide),if_pos h2]
  rw [e]
  rw [h2] at hg
  refine Ct.enter Tryz.func113 rfl Tryz.ntmps113 (by simp) (fun R=>?_)
  repeat' (first|(refine zAd ?_;first|(refine zAc xE c2 xP rfl (fun _=>?_))|(refine zAc xE c1 xP rfl (fun _=>?_)))|(refine zAq ?_;refine zAb (Ev_lssS_q rfl rfl h1) ?_)|(refine zBf ?_;refine zAb (Ev_gtrS_q rfl rfl hg) ?_)|refine xst ?_|(refine xsa ?_;intro _)|(refine xsb ?_ ?_ <;>intro _<;>try (exfalso;omega))|refine xsc ?_|fail)
  all_goals (exact xdn ())
 ·have e:cmpI a c=0:=by unfold cmpI;rw [if_neg (by rw [h1];decide),if_neg (by rw [h2];decide)]
  rw [e]
  rw [h2] at hg
  refine Ct.enter Tryz.func113 rfl Tryz.ntmps113 (by simp) (fun R=>?_)
  repeat' (first|(refine zAd ?_;first|(refine zAc xE c2 xP rfl (fun _=>?_))|(refine zAc xE c1 xP rfl (fun _=>?_)))|(refine zAq ?_;refine zAb (Ev_lssS_q rfl rfl h1) ?_)|(refine zBf ?_;refine zAb (Ev_gtrS_q rfl rfl hg) ?_)|refine xst ?_|(refine xsa ?_;intro _)|(refine xsb ?_ ?_ <;>intro _<;>try (exfalso;omega))|refine xsc ?_|fail)
  all_goals (exact xdn ())
end
end Go.Proofs.YtgipenahkmbelaaGreatDoor
namespace Go.Proofs.YtgipenahkmbelaaGreatDoor
open Go Go.RowKit
section
variable {W:World} {N:List Nd} {a c:Option Addr} {l r t:Tr} {k v:List UInt8}
theorem tall_ct (hT:TrAt N a t):Ct Tryz.prog W 148 [.pointer a] [arP N] (fun _:Unit=>.int .i64 (t.tall:Nat)) (fun _=>[arP N]):=by
 cases t with
 |nil=>
  cases hT
  refine Ct.enter Tryz.func148 rfl Tryz.ntmps148 (by simp) (fun R=>?_)
  repeat' (first|refine xst ?_|(refine xsa ?_;intro _)|(refine xsb ?_ ?_ <;>intro _<;>try (exfalso;omega))|refine xsc ?_|fail)
  all_goals (exact xdn ())
 |node tl tk tv tr th ts=>
  obtain ⟨b,al,ar,rfl,hm,-,-⟩:=hT
  refine Ct.enter Tryz.func148 rfl Tryz.ntmps148 (by simp) (fun R=>?_)
  repeat' (first|(refine zAm ?_;refine zAb (zAx (nd:=⟨b,tk,tv,al,ar,th,ts⟩) rfl xS hm rfl) ?_)|refine xst ?_|(refine xsa ?_;intro _)|(refine xsb ?_ ?_ <;>intro _<;>try (exfalso;omega))|refine xsc ?_|fail)
  all_goals (exact xdn ())
theorem ncount_ct (hT:TrAt N a t):Ct Tryz.prog W 127 [.pointer a] [arP N] (fun _:Unit=>.int .i64 (t.cnt:Nat)) (fun _=>[arP N]):=by
 cases t with
 |nil=>
  cases hT
  refine Ct.enter Tryz.func127 rfl Tryz.ntmps127 (by simp) (fun R=>?_)
  repeat' (first|refine xst ?_|(refine xsa ?_;intro _)|(refine xsb ?_ ?_ <;>intro _<;>try (exfalso;omega))|refine xsc ?_|fail)
  all_goals (exact xdn ())
 |node tl tk tv tr th ts=>
  obtain ⟨b,al,ar,rfl,hm,-,-⟩:=hT
  refine Ct.enter Tryz.func127 rfl Tryz.ntmps127 (by simp) (fun R=>?_)
  repeat' (first|(refine zAm ?_;refine zAb (zAx (nd:=⟨b,tk,tv,al,ar,th,ts⟩) rfl xS hm rfl) ?_)|refine xst ?_|(refine xsa ?_;intro _)|(refine xsb ?_ ?_ <;>intro _<;>try (exfalso;omega))|refine xsc ?_|fail)
  all_goals (exact xdn ())
theorem join_ct (hl:TrAt N a l) (hr:TrAt N c r) (h1:l.tall≤2305843009213693952) (h2:r.tall≤2305843009213693952) (h3:l.cnt≤2305843009213693952) (h4:r.cnt≤2305843009213693952) :
 Ct Tryz.prog W 114 [.pointer a,strV k,strV v,.pointer c] [arP N] (fun x:Grew N (Tr.join l k v r)=>.pointer x.1.2) (fun x=>[arP x.1.1]):=by
 have c1:=tall_ct (W:=W) hl
 have c2:=tall_ct (W:=W) hr
 have c3:=ncount_ct (W:=W) hl
 have c4:=ncount_ct (W:=W) hr
 obtain ⟨tl,htl⟩:∃ x,x=l.tall:=⟨_,rfl⟩
 obtain ⟨tr,htr⟩:∃ x,x=r.tall:=⟨_,rfl⟩
 obtain ⟨nl,hnl⟩:∃ x,x=l.cnt:=⟨_,rfl⟩
 obtain ⟨nr,hnr⟩:∃ x,x=r.cnt:=⟨_,rfl⟩
 rw [← htl] at h1 c1
 rw [← htr] at h2 c2
 rw [← hnl] at h3 c3
 rw [← hnr] at h4 c4
 have hmx:max ((tl:Nat):Int) ((tr:Nat):Int)=((max tl tr:Nat):Int):=by omega
 refine Ct.enter Tryz.func114 rfl Tryz.ntmps114 (by simp) (fun R=>?_)
 repeat' (first|(refine zBe ?_;refine zBb rfl xF rfl (fun g=>?_);refine KJ.arAdd ⟨g,k,v,a,c,max tl tr+1,nl+nr+1⟩ rfl rfl rfl xP ?_)|(refine zAd ?_;first|(refine zAc xE c4 xP rfl (fun _=>?_))|(refine zAc xE c3 xP rfl (fun _=>?_))|(refine zAc xE c2 xP rfl (fun _=>?_))|(refine zAc xE c1 xP rfl (fun _=>?_)))|(refine zAy ?_;refine zAb (zAz xV xW) ?_)|(refine ek_max ?_;refine zAb (Ev_max_w rfl rfl hmx) ?_)|(refine zBh ?_;first|refine zAb (zAi (r:=((nl+nr+1:Nat):Int)) rfl rfl (by omega) (by omega)) ?_|refine zAb (zAi (r:=((nl+nr:Nat):Int)) rfl rfl (by omega) (by omega)) ?_|refine zAb (zAi (r:=((max tl tr+1:Nat):Int)) rfl rfl (by omega) (by omega)) ?_)|refine xst ?_|(refine xsa ?_;intro _)|(refine xsb ?_ ?_ <;>intro _<;>try (exfalso;omega))|refine xsc ?_|fail)
 all_goals (exact xdn ⟨(⟨g,k,v,a,c,max tl tr+1,nl+nr+1⟩::N,some ⟨g,0,none⟩),fun y hy=>List.mem_cons_of_mem _ hy,⟨g,a,c,rfl,by rw [htl,htr,hnl,hnr];exact List.mem_cons_self ..,hl.mono fun y hy=>List.mem_cons_of_mem _ hy,hr.mono fun y hy=>List.mem_cons_of_mem _ hy⟩⟩)
end
end Go.Proofs.YtgipenahkmbelaaGreatDoor
namespace Go.Proofs.YtgipenahkmbelaaGreatDoor
open Go Go.RowKit
theorem Tr.child {l r:Tr} {k v:List UInt8} {h s:Nat} (q:(Tr.node l k v r h s).Ok):l.Ok∧r.Ok∧l.tall≤h∧r.tall≤h∧l.cnt≤s∧r.cnt≤s:=⟨q.1,q.2.1,by have:=q.2.2.1;omega,by have:=q.2.2.1;omega,by have:=q.2.2.2.1;omega,by have:=q.2.2.2.1;omega⟩
theorem join_tall (l r:Tr) (k v:List UInt8):(Tr.join l k v r).tall=max l.tall r.tall+1:=rfl
theorem join_cnt (l r:Tr) (k v:List UInt8):(Tr.join l k v r).cnt=l.cnt+r.cnt+1:=rfl
section
variable {W:World} {N:List Nd} {a c:Option Addr} {l r t:Tr} {k v:List UInt8}
theorem level_ct (hl:TrAt N a l) (hr:TrAt N c r) (ol:l.Ok) (or_:r.Ok) (h3:l.cnt≤576460752303423488) (h4:r.cnt≤576460752303423488) :
 Ct Tryz.prog W 115 [.pointer a,strV k,strV v,.pointer c] [arP N] (fun x:Grew N (Tr.level l k v r)=>.pointer x.1.2) (fun x=>[arP x.1.1]):=by
 have h1:=Tr.tall_cnt ol
 have h2:=Tr.tall_cnt or_
 have c1:=tall_ct (W:=W) hl
 have c2:=tall_ct (W:=W) hr
 by_cases hc:r.tall+1<l.tall
 ·have hcn:True:=trivial
  cases l with
  |nil=>exact absurd hc (by simp only [Tr.t0];omega)
  |node tl yk yv tr yh ys=>
   obtain ⟨b,yl,yr,rfl,hm,hyl,hyr⟩:=hl
   have hN:TrAt N (some ⟨b,0,none⟩) (.node tl yk yv tr yh ys):=⟨b,yl,yr,rfl,hm,hyl,hyr⟩
   obtain ⟨k1,k2,k3,k4,k5,k6⟩:=Tr.child ol
   rw [Tr.tn] at h1 c1
   simp only [Tr.tn] at hc hcn
   have c3:=tall_ct (W:=W) hyl
   have c4:=tall_ct (W:=W) hyr
   have h3:ys≤576460752303423488:=h3
   have h1:yh≤ys:=h1
   have q1:decide (((r.tall+1:Nat):Int)<((yh:Nat):Int))=true:=decide_eq_true (by omega)
   by_cases hc2:tr.tall≤tl.tall
   ·have q3:decide (((tr.tall:Nat):Int)≤((tl.tall:Nat):Int))=true:=decide_eq_true (by omega)
    have he:Tr.level (.node tl yk yv tr yh ys) k v r=Tr.join tl yk yv (Tr.join tr k v r):=by unfold Tr.level;exact (if_pos (by simp only [Tr.tn];exact hc)).trans (if_pos hc2)
    have b1:=join_tall tr r k v
    have b2:=join_cnt tr r k v
    rw [he]
    refine Ct.enter Tryz.func115 rfl Tryz.ntmps115 (by simp) (fun R=>?_)
    repeat' (first|(refine zAd ?_;first|(refine zAc xE (join_ct (W:=W) (hyr) (hr) (by omega) (by omega) (by omega) (by omega)) xP rfl (fun x=>?_);obtain ⟨⟨N1,p1⟩,g1,t1⟩:=x;dsimp only at g1 t1 ⊢;refine hold ?_)|(refine zAc xE c4 xP rfl (fun _=>?_))|(refine zAc xE c3 xP rfl (fun _=>?_))|(refine zAc xE c2 xP rfl (fun _=>?_))|(refine zAc xE c1 xP rfl (fun _=>?_)))|(refine zAm ?_;refine zAb (zAx (nd:=⟨b,yk,yv,yl,yr,yh,ys⟩) rfl xS hm rfl) ?_)|(refine zBh ?_;refine zAb (zAi (r:=((r.tall+1:Nat):Int)) rfl rfl (by omega) (by omega)) ?_)|(refine zBf ?_;refine zAb (zAk rfl rfl q1) ?_)|(refine ek_geq ?_;refine zAb (zBk rfl rfl q3) ?_)|refine xst ?_|(refine xsa ?_;intro _)|(refine xsb ?_ ?_ <;>intro _<;>try (exfalso;omega))|refine xsc ?_|(refine zAa (id:=3) plTDB0 (by kernel_rfl) (by kernel_rfl) ?_)|(refine zAa (id:=4) plTDB1 (by kernel_rfl) (by kernel_rfl) ?_)|(refine zAa (id:=6) plTDB2 (by kernel_rfl) (by kernel_rfl) ?_)|(refine zAa (id:=8) plTDB0 (by kernel_rfl) (by kernel_rfl) ?_)|(refine zAa (id:=9) plTDB3 (by kernel_rfl) (by kernel_rfl) ?_)|(refine zAa (id:=11) plTDB4 (by kernel_rfl) (by kernel_rfl) ?_)|refine zAp ?_ ?_|refine zAn rfl rfl rfl rfl rfl ?_ ?_|refine zAg ?_ ?_|exact Rech.nil|fail)
    refine Hold.mk ?_
    repeat' (first|(refine zAd ?_;refine zAc xE (join_ct (W:=W) (hyl.mono g1) (t1) (by omega) (by omega) (by omega) (by omega)) xP rfl (fun x=>?_);obtain ⟨⟨N2,p2⟩,g2,t2⟩:=x;dsimp only at g2 t2 ⊢)|(refine zAm ?_;refine zAb (zAx (nd:=⟨b,yk,yv,yl,yr,yh,ys⟩) rfl xS (g1 _ hm) rfl) ?_)|refine xst ?_|(refine xsa ?_;intro _)|(refine xsb ?_ ?_ <;>intro _<;>try (exfalso;omega))|refine xsc ?_|(refine zAa (id:=3) plTDB0 (by kernel_rfl) (by kernel_rfl) ?_)|(refine zAa (id:=4) plTDB1 (by kernel_rfl) (by kernel_rfl) ?_)|(refine zAa (id:=6) plTDB2 (by kernel_rfl) (by kernel_rfl) ?_)|(refine zAa (id:=8) plTDB0 (by kernel_rfl) (by kernel_rfl) ?_)|(refine zAa (id:=9) plTDB3 (by kernel_rfl) (by kernel_rfl) ?_)|(refine zAa (id:=11) plTDB4 (by kernel_rfl) (by kernel_rfl) ?_)|refine zAp ?_ ?_|refine zAn rfl rfl rfl rfl rfl ?_ ?_|refine zAg ?_ ?_|exact Rech.nil|fail)
    all_goals (exact xdn ⟨(N2,p2),fun y hy=>g2 y (g1 y hy),t2⟩)
   ·have q3:decide (((tr.tall:Nat):Int)≤((tl.tall:Nat):Int))=false:=decide_eq_false (by omega)
    cases tr with
    |nil=>exact absurd hc2 (by simp only [Tr.t0];omega)
    |node ml zk zv mr zh zs=>
     obtain ⟨d,zl,zr,hze,hmz,hzl,hzr⟩:=hyr
     subst hze
     obtain ⟨m1,m2,m3,m4,m5,m6⟩:=Tr.child k2
     rw [Tr.tn] at c4 q3
     simp only [Tr.tn] at hc2
     have k4:zh≤yh:=k4
     have k6:zs≤ys:=k6
     have he:Tr.level (.node tl yk yv (.node ml zk zv mr zh zs) yh ys) k v r=Tr.join (Tr.join tl yk yv ml) zk zv (Tr.join mr k v r):=by unfold Tr.level;exact (if_pos (by simp only [Tr.tn];exact hc)).trans (if_neg (by simp only [Tr.tn];exact hc2))
     have b1:=join_tall tl ml yk yv
     have b2:=join_cnt tl ml yk yv
     have b3:=join_tall mr r k v
     have b4:=join_cnt mr r k v
     rw [he]
     refine Ct.enter Tryz.func115 rfl Tryz.ntmps115 (by simp) (fun R=>?_)
     repeat' (first|(refine zAd ?_;first|(refine zAc xE (join_ct (W:=W) (hyl) (hzl) (by omega) (by omega) (by omega) (by omega)) xP rfl (fun x=>?_);obtain ⟨⟨N1,p1⟩,g1,t1⟩:=x;dsimp only at g1 t1 ⊢;refine hold ?_)|(refine zAc xE c4 xP rfl (fun _=>?_))|(refine zAc xE c3 xP rfl (fun _=>?_))|(refine zAc xE c2 xP rfl (fun _=>?_))|(refine zAc xE c1 xP rfl (fun _=>?_)))|(refine zAm ?_;first|refine zAb (zAx (nd:=⟨d,zk,zv,zl,zr,zh,zs⟩) rfl xS hmz rfl) ?_|refine zAb (zAx (nd:=⟨b,yk,yv,yl,some ⟨d,0,none⟩,yh,ys⟩) rfl xS hm rfl) ?_)|(refine zBh ?_;refine zAb (zAi (r:=((r.tall+1:Nat):Int)) rfl rfl (by omega) (by omega)) ?_)|(refine zBf ?_;refine zAb (zAk rfl rfl q1) ?_)|(refine ek_geq ?_;refine zAb (zBk rfl rfl q3) ?_)|refine xst ?_|(refine xsa ?_;intro _)|(refine xsb ?_ ?_ <;>intro _<;>try (exfalso;omega))|refine xsc ?_|(refine zAa (id:=3) plTDB0 (by kernel_rfl) (by kernel_rfl) ?_)|(refine zAa (id:=4) plTDB1 (by kernel_rfl) (by kernel_rfl) ?_)|(refine zAa (id:=6) plTDB2 (by kernel_rfl) (by kernel_rfl) ?_)|(refine zAa (id:=8) plTDB0 (by kernel_rfl) (by kernel_rfl) ?_)|(refine zAa (id:=9) plTDB3 (by kernel_rfl) (by kernel_rfl) ?_)|(refine zAa (id:=11) plTDB4 (by kernel_rfl) (by kernel_rfl) ?_)|refine zAp ?_ ?_|refine zAn rfl rfl rfl rfl rfl ?_ ?_|refine zAg ?_ ?_|exact Rech.nil|fail)
     refine Hold.mk ?_
     repeat' (first|(refine zAd ?_;refine zAc xE (join_ct (W:=W) (hzr.mono g1) (hr.mono g1) (by omega) (by omega) (by omega) (by omega)) xP rfl (fun x=>?_);obtain ⟨⟨N2,p2⟩,g2,t2⟩:=x;dsimp only at g2 t2 ⊢;refine hold ?_)|(refine zAm ?_;first|refine zAb (zAx (nd:=⟨d,zk,zv,zl,zr,zh,zs⟩) rfl xS (g1 _ hmz) rfl) ?_|refine zAb (zAx (nd:=⟨b,yk,yv,yl,some ⟨d,0,none⟩,yh,ys⟩) rfl xS (g1 _ hm) rfl) ?_)|refine xst ?_|(refine xsa ?_;intro _)|(refine xsb ?_ ?_ <;>intro _<;>try (exfalso;omega))|refine xsc ?_|(refine zAa (id:=3) plTDB0 (by kernel_rfl) (by kernel_rfl) ?_)|(refine zAa (id:=4) plTDB1 (by kernel_rfl) (by kernel_rfl) ?_)|(refine zAa (id:=6) plTDB2 (by kernel_rfl) (by kernel_rfl) ?_)|(refine zAa (id:=8) plTDB0 (by kernel_rfl) (by kernel_rfl) ?_)|(refine zAa (id:=9) plTDB3 (by kernel_rfl) (by kernel_rfl) ?_)|(refine zAa (id:=11) plTDB4 (by kernel_rfl) (by kernel_rfl) ?_)|refine zAp ?_ ?_|refine zAn rfl rfl rfl rfl rfl ?_ ?_|refine zAg ?_ ?_|exact Rech.nil|fail)
     refine Hold.mk ?_
     repeat' (first|(refine zAd ?_;refine zAc xE (join_ct (W:=W) (t1.mono g2) (t2) (by omega) (by omega) (by omega) (by omega)) xP rfl (fun x=>?_);obtain ⟨⟨N3,p3⟩,g3,t3⟩:=x;dsimp only at g3 t3 ⊢)|(refine zAm ?_;first|refine zAb (zAx (nd:=⟨d,zk,zv,zl,zr,zh,zs⟩) rfl xS (g2 _ (g1 _ hmz)) rfl) ?_|refine zAb (zAx (nd:=⟨b,yk,yv,yl,some ⟨d,0,none⟩,yh,ys⟩) rfl xS (g2 _ (g1 _ hm)) rfl) ?_)|refine xst ?_|(refine xsa ?_;intro _)|(refine xsb ?_ ?_ <;>intro _<;>try (exfalso;omega))|refine xsc ?_|(refine zAa (id:=3) plTDB0 (by kernel_rfl) (by kernel_rfl) ?_)|(refine zAa (id:=4) plTDB1 (by kernel_rfl) (by kernel_rfl) ?_)|(refine zAa (id:=6) plTDB2 (by kernel_rfl) (by kernel_rfl) ?_)|(refine zAa (id:=8) plTDB0 (by kernel_rfl) (by kernel_rfl) ?_)|(refine zAa (id:=9) plTDB3 (by kernel_rfl) (by kernel_rfl) ?_)|(refine zAa (id:=11) plTDB4 (by kernel_rfl) (by kernel_rfl) ?_)|refine zAp ?_ ?_|refine zAn rfl rfl rfl rfl rfl ?_ ?_|refine zAg ?_ ?_|exact Rech.nil|fail)
     all_goals (exact xdn ⟨(N3,p3),fun y hy=>g3 y (g2 y (g1 y hy)),t3⟩)
 have hcn:=hc
 clear hc
 by_cases hc:l.tall+1<r.tall
 ·
  cases r with
  |nil=>exact absurd hc (by simp only [Tr.t0];omega)
  |node tl yk yv tr yh ys=>
   obtain ⟨b,yl,yr,rfl,hm,hyl,hyr⟩:=hr
   have hN:TrAt N (some ⟨b,0,none⟩) (.node tl yk yv tr yh ys):=⟨b,yl,yr,rfl,hm,hyl,hyr⟩
   obtain ⟨k1,k2,k3,k4,k5,k6⟩:=Tr.child or_
   rw [Tr.tn] at h2 c2
   simp only [Tr.tn] at hc hcn
   have c3:=tall_ct (W:=W) hyl
   have c4:=tall_ct (W:=W) hyr
   have h4:ys≤576460752303423488:=h4
   have h2:yh≤ys:=h2
   have q1:decide (((yh+1:Nat):Int)<((l.tall:Nat):Int))=false:=decide_eq_false (by omega)
   have q2:decide (((l.tall+1:Nat):Int)<((yh:Nat):Int))=true:=decide_eq_true (by omega)
   by_cases hc2:tl.tall≤tr.tall
   ·have q3:decide (((tl.tall:Nat):Int)≤((tr.tall:Nat):Int))=true:=decide_eq_true (by omega)
    have he:Tr.level l k v (.node tl yk yv tr yh ys)=Tr.join (Tr.join l k v tl) yk yv tr:=by unfold Tr.level;exact (if_neg (by simp only [Tr.tn];exact hcn)).trans ((if_pos (by simp only [Tr.tn];exact hc)).trans (if_pos hc2))
    have b1:=join_tall l tl k v
    have b2:=join_cnt l tl k v
    rw [he]
    refine Ct.enter Tryz.func115 rfl Tryz.ntmps115 (by simp) (fun R=>?_)
    repeat' (first|(refine zAd ?_;first|(refine zAc xE (join_ct (W:=W) (hl) (hyl) (by omega) (by omega) (by omega) (by omega)) xP rfl (fun x=>?_);obtain ⟨⟨N1,p1⟩,g1,t1⟩:=x;dsimp only at g1 t1 ⊢;refine hold ?_)|(refine zAc xE c4 xP rfl (fun _=>?_))|(refine zAc xE c3 xP rfl (fun _=>?_))|(refine zAc xE c2 xP rfl (fun _=>?_))|(refine zAc xE c1 xP rfl (fun _=>?_)))|(refine zAm ?_;refine zAb (zAx (nd:=⟨b,yk,yv,yl,yr,yh,ys⟩) rfl xS hm rfl) ?_)|(refine zBh ?_;first|refine zAb (zAi (r:=((l.tall+1:Nat):Int)) rfl rfl (by omega) (by omega)) ?_|refine zAb (zAi (r:=((yh+1:Nat):Int)) rfl rfl (by omega) (by omega)) ?_)|(refine zBf ?_;first|refine zAb (zAk rfl rfl q2) ?_|refine zAb (zAk rfl rfl q1) ?_)|(refine ek_geq ?_;refine zAb (zBk rfl rfl q3) ?_)|refine xst ?_|(refine xsa ?_;intro _)|(refine xsb ?_ ?_ <;>intro _<;>try (exfalso;omega))|refine xsc ?_|(refine zAa (id:=3) plTDB0 (by kernel_rfl) (by kernel_rfl) ?_)|(refine zAa (id:=4) plTDB1 (by kernel_rfl) (by kernel_rfl) ?_)|(refine zAa (id:=6) plTDB2 (by kernel_rfl) (by kernel_rfl) ?_)|(refine zAa (id:=8) plTDB0 (by kernel_rfl) (by kernel_rfl) ?_)|(refine zAa (id:=9) plTDB3 (by kernel_rfl) (by kernel_rfl) ?_)|(refine zAa (id:=11) plTDB4 (by kernel_rfl) (by kernel_rfl) ?_)|refine zAp ?_ ?_|refine zAn rfl rfl rfl rfl rfl ?_ ?_|refine zAg ?_ ?_|exact Rech.nil|fail)
    refine Hold.mk ?_
    repeat' (first|(refine zAd ?_;refine zAc xE (join_ct (W:=W) (t1) (hyr.mono g1) (by omega) (by omega) (by omega) (by omega)) xP rfl (fun x=>?_);obtain ⟨⟨N2,p2⟩,g2,t2⟩:=x;dsimp only at g2 t2 ⊢)|(refine zAm ?_;refine zAb (zAx (nd:=⟨b,yk,yv,yl,yr,yh,ys⟩) rfl xS (g1 _ hm) rfl) ?_)|refine xst ?_|(refine xsa ?_;intro _)|(refine xsb ?_ ?_ <;>intro _<;>try (exfalso;omega))|refine xsc ?_|(refine zAa (id:=3) plTDB0 (by kernel_rfl) (by kernel_rfl) ?_)|(refine zAa (id:=4) plTDB1 (by kernel_rfl) (by kernel_rfl) ?_)|(refine zAa (id:=6) plTDB2 (by kernel_rfl) (by kernel_rfl) ?_)|(refine zAa (id:=8) plTDB0 (by kernel_rfl) (by kernel_rfl) ?_)|(refine zAa (id:=9) plTDB3 (by kernel_rfl) (by kernel_rfl) ?_)|(refine zAa (id:=11) plTDB4 (by kernel_rfl) (by kernel_rfl) ?_)|refine zAp ?_ ?_|refine zAn rfl rfl rfl rfl rfl ?_ ?_|refine zAg ?_ ?_|exact Rech.nil|fail)
    all_goals (exact xdn ⟨(N2,p2),fun y hy=>g2 y (g1 y hy),t2⟩)
   ·have q3:decide (((tl.tall:Nat):Int)≤((tr.tall:Nat):Int))=false:=decide_eq_false (by omega)
    cases tl with
    |nil=>exact absurd hc2 (by simp only [Tr.t0];omega)
    |node ml zk zv mr zh zs=>
     obtain ⟨d,zl,zr,hze,hmz,hzl,hzr⟩:=hyl
     subst hze
     obtain ⟨m1,m2,m3,m4,m5,m6⟩:=Tr.child k1
     rw [Tr.tn] at c3 q3
     simp only [Tr.tn] at hc2
     have k3:zh≤yh:=k3
     have k5:zs≤ys:=k5
     have he:Tr.level l k v (.node (.node ml zk zv mr zh zs) yk yv tr yh ys)=Tr.join (Tr.join l k v ml) zk zv (Tr.join mr yk yv tr):=by unfold Tr.level;exact (if_neg (by simp only [Tr.tn];exact hcn)).trans ((if_pos (by simp only [Tr.tn];exact hc)).trans (if_neg (by simp only [Tr.tn];exact hc2)))
     have b1:=join_tall l ml k v
     have b2:=join_cnt l ml k v
     have b3:=join_tall mr tr yk yv
     have b4:=join_cnt mr tr yk yv
     rw [he]
     refine Ct.enter Tryz.func115 rfl Tryz.ntmps115 (by simp) (fun R=>?_)
     repeat' (first|(refine zAd ?_;first|(refine zAc xE (join_ct (W:=W) (hl) (hzl) (by omega) (by omega) (by omega) (by omega)) xP rfl (fun x=>?_);obtain ⟨⟨N1,p1⟩,g1,t1⟩:=x;dsimp only at g1 t1 ⊢;refine hold ?_)|(refine zAc xE c4 xP rfl (fun _=>?_))|(refine zAc xE c3 xP rfl (fun _=>?_))|(refine zAc xE c2 xP rfl (fun _=>?_))|(refine zAc xE c1 xP rfl (fun _=>?_)))|(refine zAm ?_;first|refine zAb (zAx (nd:=⟨d,zk,zv,zl,zr,zh,zs⟩) rfl xS hmz rfl) ?_|refine zAb (zAx (nd:=⟨b,yk,yv,some ⟨d,0,none⟩,yr,yh,ys⟩) rfl xS hm rfl) ?_)|(refine zBh ?_;first|refine zAb (zAi (r:=((l.tall+1:Nat):Int)) rfl rfl (by omega) (by omega)) ?_|refine zAb (zAi (r:=((yh+1:Nat):Int)) rfl rfl (by omega) (by omega)) ?_)|(refine zBf ?_;first|refine zAb (zAk rfl rfl q2) ?_|refine zAb (zAk rfl rfl q1) ?_)|(refine ek_geq ?_;refine zAb (zBk rfl rfl q3) ?_)|refine xst ?_|(refine xsa ?_;intro _)|(refine xsb ?_ ?_ <;>intro _<;>try (exfalso;omega))|refine xsc ?_|(refine zAa (id:=3) plTDB0 (by kernel_rfl) (by kernel_rfl) ?_)|(refine zAa (id:=4) plTDB1 (by kernel_rfl) (by kernel_rfl) ?_)|(refine zAa (id:=6) plTDB2 (by kernel_rfl) (by kernel_rfl) ?_)|(refine zAa (id:=8) plTDB0 (by kernel_rfl) (by kernel_rfl) ?_)|(refine zAa (id:=9) plTDB3 (by kernel_rfl) (by kernel_rfl) ?_)|(refine zAa (id:=11) plTDB4 (by kernel_rfl) (by kernel_rfl) ?_)|refine zAp ?_ ?_|refine zAn rfl rfl rfl rfl rfl ?_ ?_|refine zAg ?_ ?_|exact Rech.nil|fail)
     refine Hold.mk ?_
     repeat' (first|(refine zAd ?_;refine zAc xE (join_ct (W:=W) (hzr.mono g1) (hyr.mono g1) (by omega) (by omega) (by omega) (by omega)) xP rfl (fun x=>?_);obtain ⟨⟨N2,p2⟩,g2,t2⟩:=x;dsimp only at g2 t2 ⊢;refine hold ?_)|(refine zAm ?_;first|refine zAb (zAx (nd:=⟨d,zk,zv,zl,zr,zh,zs⟩) rfl xS (g1 _ hmz) rfl) ?_|refine zAb (zAx (nd:=⟨b,yk,yv,some ⟨d,0,none⟩,yr,yh,ys⟩) rfl xS (g1 _ hm) rfl) ?_)|refine xst ?_|(refine xsa ?_;intro _)|(refine xsb ?_ ?_ <;>intro _<;>try (exfalso;omega))|refine xsc ?_|(refine zAa (id:=3) plTDB0 (by kernel_rfl) (by kernel_rfl) ?_)|(refine zAa (id:=4) plTDB1 (by kernel_rfl) (by kernel_rfl) ?_)|(refine zAa (id:=6) plTDB2 (by kernel_rfl) (by kernel_rfl) ?_)|(refine zAa (id:=8) plTDB0 (by kernel_rfl) (by kernel_rfl) ?_)|(refine zAa (id:=9) plTDB3 (by kernel_rfl) (by kernel_rfl) ?_)|(refine zAa (id:=11) plTDB4 (by kernel_rfl) (by kernel_rfl) ?_)|refine zAp ?_ ?_|refine zAn rfl rfl rfl rfl rfl ?_ ?_|refine zAg ?_ ?_|exact Rech.nil|fail)
     refine Hold.mk ?_
     repeat' (first|(refine zAd ?_;refine zAc xE (join_ct (W:=W) (t1.mono g2) (t2) (by omega) (by omega) (by omega) (by omega)) xP rfl (fun x=>?_);obtain ⟨⟨N3,p3⟩,g3,t3⟩:=x;dsimp only at g3 t3 ⊢)|(refine zAm ?_;first|refine zAb (zAx (nd:=⟨d,zk,zv,zl,zr,zh,zs⟩) rfl xS (g2 _ (g1 _ hmz)) rfl) ?_|refine zAb (zAx (nd:=⟨b,yk,yv,some ⟨d,0,none⟩,yr,yh,ys⟩) rfl xS (g2 _ (g1 _ hm)) rfl) ?_)|refine xst ?_|(refine xsa ?_;intro _)|(refine xsb ?_ ?_ <;>intro _<;>try (exfalso;omega))|refine xsc ?_|(refine zAa (id:=3) plTDB0 (by kernel_rfl) (by kernel_rfl) ?_)|(refine zAa (id:=4) plTDB1 (by kernel_rfl) (by kernel_rfl) ?_)|(refine zAa (id:=6) plTDB2 (by kernel_rfl) (by kernel_rfl) ?_)|(refine zAa (id:=8) plTDB0 (by kernel_rfl) (by kernel_rfl) ?_)|(refine zAa (id:=9) plTDB3 (by kernel_rfl) (by kernel_rfl) ?_)|(refine zAa (id:=11) plTDB4 (by kernel_rfl) (by kernel_rfl) ?_)|refine zAp ?_ ?_|refine zAn rfl rfl rfl rfl rfl ?_ ?_|refine zAg ?_ ?_|exact Rech.nil|fail)
     all_goals (exact xdn ⟨(N3,p3),fun y hy=>g3 y (g2 y (g1 y hy)),t3⟩)
 have he:Tr.level l k v r=Tr.join l k v r:=by unfold Tr.level;rw [if_neg hcn,if_neg hc]
 have q1:decide (((r.tall+1:Nat):Int)<((l.tall:Nat):Int))=false:=decide_eq_false (by omega)
 have q2:decide (((l.tall+1:Nat):Int)<((r.tall:Nat):Int))=false:=decide_eq_false (by omega)
 rw [he]
 refine Ct.enter Tryz.func115 rfl Tryz.ntmps115 (by simp) (fun R=>?_)
 repeat' (first|(refine zAd ?_;first|(refine zAc xE (join_ct (W:=W) (hl) (hr) (by omega) (by omega) (by omega) (by omega)) xP rfl (fun x=>?_);obtain ⟨⟨N1,p1⟩,g1,t1⟩:=x;dsimp only at g1 t1 ⊢)|(refine zAc xE c2 xP rfl (fun _=>?_))|(refine zAc xE c1 xP rfl (fun _=>?_)))|(refine zBh ?_;first|refine zAb (zAi (r:=((l.tall+1:Nat):Int)) rfl rfl (by omega) (by omega)) ?_|refine zAb (zAi (r:=((r.tall+1:Nat):Int)) rfl rfl (by omega) (by omega)) ?_)|(refine zBf ?_;first|refine zAb (zAk rfl rfl q2) ?_|refine zAb (zAk rfl rfl q1) ?_)|refine xst ?_|(refine xsa ?_;intro _)|(refine xsb ?_ ?_ <;>intro _<;>try (exfalso;omega))|refine xsc ?_|(refine zAa (id:=3) plTDB0 (by kernel_rfl) (by kernel_rfl) ?_)|(refine zAa (id:=4) plTDB1 (by kernel_rfl) (by kernel_rfl) ?_)|(refine zAa (id:=6) plTDB2 (by kernel_rfl) (by kernel_rfl) ?_)|(refine zAa (id:=8) plTDB0 (by kernel_rfl) (by kernel_rfl) ?_)|(refine zAa (id:=9) plTDB3 (by kernel_rfl) (by kernel_rfl) ?_)|(refine zAa (id:=11) plTDB4 (by kernel_rfl) (by kernel_rfl) ?_)|refine zAp ?_ ?_|refine zAn rfl rfl rfl rfl rfl ?_ ?_|refine zAg ?_ ?_|exact Rech.nil|fail)
 all_goals (exact xdn ⟨(N1,p1),g1,t1⟩)
end
end Go.Proofs.YtgipenahkmbelaaGreatDoor
