/-
  Region, Flow, Kinds.
-/
import Derived.WalkKit
import Derived.OrdersHeld
import Derived.StillTailTactics
import Derived.Deep.MidRow
import Derived.Test.YtgipenahkmbelaaGreatDoorTAD
import Derived.Test.YtgipenahkmbelaaGreatDoorTAH
set_option maxHeartbeats 64000000
namespace Go.Proofs.YtgipenahkmbelaaGreatDoor
open Go
section
variable {P:Program} {ops:Array Oper} {Q:Exit→Act→World→Prop} {md:Region.Mode} {S:World→Prop} {late:Nat→Bool}
def pureB (ops:Array Oper) (i:Nat):Bool:=match ops[i]? with
 |some o=>match o.op with | .load ..=>false | .lookup ..=>false|_=>true
 |none=>false
def wpAnyT (P:Program) (md:Region.Mode) (ops:Array Oper) (Q:Exit→Act→World→Prop) (S:World→Prop) (late:Nat→Bool):Nat→Array Bool→Act→World→Prop
 |0,listed,a,w=>Region.ready md ops listed=[]∧Q .normal a w
 |fuel+1,listed,a,w=>
  (Region.ready md ops listed=[]→Q .normal a w)∧
  ∀ i ∈ Region.ready md ops listed,wpOp P ops Q i (fun a' w'=>(late i=true∨(pureB ops i=true∧¬ S w)∨S w')∧wpAnyT P md ops Q S late fuel (listed.setIfInBounds i true) a' w') a w
theorem wpAny_of_T:∀ (fuel:Nat) (listed:Array Bool) (a:Act) (w:World),wpAnyT P md ops Q S late fuel listed a w→wpAny P md ops Q fuel listed a w
 |0,_,_,_,h=>h
 |fuel+1,_,_,_,h=>⟨h.1,fun i hi=>wpOp_mono (fun a' w' h'=>wpAny_of_T fuel _ a' w' h'.2) (h.2 i hi)⟩
def Closed (md:Region.Mode) (ops:Array Oper) (listed:Array Bool):Prop:=
 ∀ k o,ops[k]? = some o→listed.getD k false=true→∀ e ∈ o.after,Region.binds md e=true→listed.getD e.on false=true
theorem Closed.set {listed:Array Bool} (h:Closed md ops listed) {i:Nat} (hi:i ∈ Region.ready md ops listed):Closed md ops (listed.setIfInBounds i true):=by
 intro k o ho hk e he hb
 obtain ⟨_,oi,hoi,hall⟩:=mem_ready.1 hi
 by_cases hki:k=i
 ·subst hki
  rw [hoi] at ho;cases ho
  exact getD_set_true (hall e he hb)
 ·have:listed.getD k false=true:=by rw [← hk];exact (getD_set_ne false (Ne.symm hki)).symm
  exact getD_set_true (h k o ho this e he hb)
def waitsB (md:Region.Mode) (ops:Array Oper):Nat→Nat→Nat→Bool
 |0,_,_=>false
 |n+1,j,i=>match ops[j]? with
  |none=>false
  |some o=>o.after.any fun e=>Region.binds md e && (e.on == i || waitsB md ops n e.on i)
theorem waits_listed {listed:Array Bool} (hc:Closed md ops listed) (i:Nat):∀ (n j:Nat),waitsB md ops n j i=true→(j ∈ Region.ready md ops listed∨listed.getD j false=true)→listed.getD i false=true
 |0,_,h,_=>by simp [waitsB] at h
 |n+1,j,h,hj=>by
  simp only [waitsB] at h
  cases ho:ops[j]? with
  |none=>simp [ho] at h
  |some o=>
   simp only [ho,Array.any_eq_true,Bool.and_eq_true,Bool.or_eq_true,beq_iff_eq] at h
   obtain ⟨k,hk,hb,h2⟩:=h
   have hm:o.after[k] ∈ o.after:=Array.getElem_mem hk
   have hl:listed.getD (o.after[k]).on false=true:=by
    rcases hj with hj|hj
    ·obtain ⟨_,o',ho',hall⟩:=mem_ready.1 hj
     rw [ho] at ho';cases ho'
     exact hall _ hm hb
    ·exact hc j o ho hj _ hm hb
   rcases h2 with h2|h2
   ·rw [h2] at hl;exact hl
   ·exact waits_listed hc i n _ h2 (.inr hl)
theorem not_both {listed:Array Bool} {i:Nat} (h0:listed.getD i true=false) (h1:listed.getD i false=true):False:=by
 rcases Nat.lt_or_ge i listed.size with h'|h'
 ·simp [h'] at h0 h1;rw [h0] at h1;cases h1
 ·simp [Array.getElem?_eq_none h'] at h1
theorem wpAnyT_first {i:Nat} {oi:Oper} {v:Value} (hi:ops[i]? = some oi) (hsel:∀ (j:Nat) (o:Oper) cs b,ops[j]? = some o→o.op≠.select cs b)
 (hQ:∀ c a w,Q (.panic c) (a.put oi.dst v) w→Q (.panic c) a w) (hlate:∀ j,j<ops.size→late j=true→∃ n,waitsB md ops n j i=true) :
 ∀ (fuel:Nat) (listed:Array Bool) (a:Act) (w:World),Closed md ops listed→
  (∀ j oj,ops[j]? = some oj→j≠i→listed.getD j true=false→(∀ e ∈ oj.after,Region.binds md e=true→e.on≠i)→oi.apart ops oj=true)→
  i ∈ Region.ready md ops listed→YieldsIf P ops S oi v a→S w→
  wpAnyT P md ops Q S late fuel (listed.setIfInBounds i true) (a.put oi.dst v) w→wpAnyT P md ops Q S late (fuel+1) listed a w:=by
 intro fuel
 induction fuel with
 |zero=>
  intro listed a w _ _ hr hy hS H
  refine ⟨fun h=>(by rw [h] at hr;cases hr),fun j hj=>?_⟩
  by_cases hji:j=i
  ·subst hji;exact hy.wpOp hi hS ⟨.inr (.inr hS),H⟩
  ·have:=ready_mono hj hji
   rw [H.1] at this
   cases this
 |succ fuel ih=>
  intro listed a w hcl hfree hr hy hS H
  refine ⟨fun h=>(by rw [h] at hr;cases hr),fun j hj=>?_⟩
  by_cases hji:j=i
  ·subst hji;exact hy.wpOp hi hS ⟨.inr (.inr hS),H⟩
  ·have h1:=H.2 j (ready_mono hj hji)
   obtain ⟨hjun,oj,hoj,hall⟩:=mem_ready.1 hj
   have hnot:∀ e ∈ oj.after,Region.binds md e=true→e.on≠i:=fun e he hb heq=>by
    have h1:=hall e he hb
    rw [heq] at h1
    exact not_both (mem_ready.1 hr).1 h1
   have hnl:late j≠true:=fun hl=>by
    obtain ⟨n,hn⟩:=hlate j (Array.getElem?_eq_some_iff.1 hoj).1 hl
    exact not_both (mem_ready.1 hr).1 (waits_listed hcl i n j hn (.inl hj))
   have h2:=wpOp_putIf hoj (hfree j oj hoj hji hjun hnot) (fun cs b=>hsel i oi cs b hi) (fun cs b=>hsel j oj cs b hoj) hQ hy h1
   have hfree':∀ k ok,ops[k]? = some ok→k≠i→(listed.setIfInBounds j true).getD k true=false→
    (∀ e ∈ ok.after,Region.binds md e=true→e.on≠i)→oi.apart ops ok=true:=fun k ok hk hki hun hno=>by
    refine hfree k ok hk hki ?_ hno
    by_cases hjk:j=k
    ·subst hjk;exact hjun
    ·rw [getD_set_ne true hjk] at hun;exact hun
   refine wpOp_mono (fun a' w' h3=>?_) h2
   have hS':S w':=(h3.2.1.resolve_left hnl).resolve_left (fun q=>q.2 hS)
   refine ⟨.inr (.inr hS'),ih (listed.setIfInBounds j true) a' w' (hcl.set hj) hfree' (ready_mono hr (Ne.symm hji)) h3.1 hS' ?_⟩
   rw [Array.setIfInBounds_comm _ _ hji]
   exact h3.2.2
theorem wpAnyT_pure {i:Nat} {oi:Oper} {v:Value} (hi:ops[i]? = some oi) (hp:pureB ops i=true) (hsel:∀ (j:Nat) (o:Oper) cs b,ops[j]? = some o→o.op≠.select cs b)
 (hQ:∀ c a w,Q (.panic c) (a.put oi.dst v) w→Q (.panic c) a w) :
 ∀ (fuel:Nat) (listed:Array Bool) (a:Act) (w:World),
  (∀ j oj,ops[j]? = some oj→j≠i→listed.getD j true=false→(∀ e ∈ oj.after,Region.binds md e=true→e.on≠i)→oi.apart ops oj=true)→
  i ∈ Region.ready md ops listed→YieldsIf P ops (fun _=>True) oi v a→
  wpAnyT P md ops Q S late fuel (listed.setIfInBounds i true) (a.put oi.dst v) w→wpAnyT P md ops Q S late (fuel+1) listed a w:=by
 intro fuel
 have hme:∀ w:World,late i=true∨(pureB ops i=true∧¬ S w)∨S w:=fun w=>by
  by_cases h:S w
  ·exact .inr (.inr h)
  ·exact .inr (.inl ⟨hp,h⟩)
 induction fuel with
 |zero=>
  intro listed a w _ hr hy H
  refine ⟨fun h=>(by rw [h] at hr;cases hr),fun j hj=>?_⟩
  by_cases hji:j=i
  ·subst hji;exact hy.wpOp hi trivial ⟨hme w,H⟩
  ·have:=ready_mono hj hji
   rw [H.1] at this
   cases this
 |succ fuel ih=>
  intro listed a w hfree hr hy H
  refine ⟨fun h=>(by rw [h] at hr;cases hr),fun j hj=>?_⟩
  by_cases hji:j=i
  ·subst hji;exact hy.wpOp hi trivial ⟨hme w,H⟩
  ·have h1:=H.2 j (ready_mono hj hji)
   obtain ⟨hjun,oj,hoj,hall⟩:=mem_ready.1 hj
   have hnot:∀ e ∈ oj.after,Region.binds md e=true→e.on≠i:=fun e he hb heq=>by
    have h1:=hall e he hb
    rw [heq] at h1
    exact not_both (mem_ready.1 hr).1 h1
   have h2:=wpOp_putIf hoj (hfree j oj hoj hji hjun hnot) (fun cs b=>hsel i oi cs b hi) (fun cs b=>hsel j oj cs b hoj) hQ hy h1
   have hfree':∀ k ok,ops[k]? = some ok→k≠i→(listed.setIfInBounds j true).getD k true=false→
    (∀ e ∈ ok.after,Region.binds md e=true→e.on≠i)→oi.apart ops ok=true:=fun k ok hk hki hun hno=>by
    refine hfree k ok hk hki ?_ hno
    by_cases hjk:j=k
    ·subst hjk;exact hjun
    ·rw [getD_set_ne true hjk] at hun;exact hun
   refine wpOp_mono (fun a' w' h3=>⟨h3.2.1,ih (listed.setIfInBounds j true) a' w' hfree' (ready_mono hr (Ne.symm hji)) h3.1 ?_⟩) h2
   rw [Array.setIfInBounds_comm _ _ hji]
   exact h3.2.2
def firstK (N k:Nat):Array Bool:=(List.replicate k true++List.replicate (N-k) false).toArray
theorem firstK_getD (N k j:Nat) (d:Bool) (hk:k≤N):(firstK N k).getD j d=if j<k then true else if j<N then false else d:=by
 unfold firstK
 simp only [Array.getD_eq_getD_getElem?,List.getElem?_toArray,List.getElem?_append,List.length_replicate,List.getElem?_replicate]
 by_cases h1:j<k
 ·simp [h1]
 ·by_cases h2:j<N
  ·simp [h1,h2,show j-k<N-k by omega]
  ·simp [h1,h2,show ¬ j-k<N-k by omega]
theorem firstK_set (N k:Nat) (hk:k<N):(firstK N k).setIfInBounds k true=firstK N (k+1):=by
 unfold firstK
 rw [List.setIfInBounds_toArray]
 congr 1
 rw [List.set_append_right _ _ (by simp)]
 simp only [List.length_replicate,Nat.sub_self]
 rw [show N-k=(N-(k+1))+1 by omega,List.replicate_succ,List.set_cons_zero,List.replicate_succ' (n:=k)]
 simp
def readsB (ops:Array Oper) (n m:Nat):Bool:=
 Region.noSelect ops && decide (n≤m) && decide (m≤ops.size) &&
 ((List.range n).all fun k=>(Region.ready .any ops (firstK ops.size k)).contains k && Region.free .any ops (firstK ops.size k) k) &&
 ((List.range ops.size).all fun k=>decide (k<n) || Region.ready .any ops (firstK ops.size k) == [k]) &&
 (Region.ready .any ops (firstK ops.size ops.size) == []) &&
 ((List.range ops.size).all fun j=>decide (j<m) || (List.range n).all fun i=>pureB ops i || waitsB .any ops ops.size j i) &&
 ((List.range ops.size).all fun k=>match ops[k]? with|none=>true|some o=>o.after.all fun e=>!Region.binds .any e || decide (e.on<k))
def readsT (P:Program) (ops:Array Oper) (S:World→Prop) (R:Act→Prop):List Oper→Act→Prop
 |[],a=>R a
 |o::rest,a=>∃ v,((∀ i,ops[i]? = some o→pureB ops i=true)∧YieldsIf P ops (fun _=>True) o v a∨(∀ i,ops[i]? = some o→pureB ops i=false)∧YieldsIf P ops S o v a)∧readsT P ops S R rest (a.put o.dst v)
def earlyT (P:Program) (ops:Array Oper) (Q:Exit→Act→World→Prop) (S:World→Prop) (R:Act→World→Prop):List Oper→Act→World→Prop
 |[],a,w=>R a w
 |o::rest,a,w=>if Region.wanted o (yielded ops a.tmps) then o.wp P a w (fun a' w'=>S w'∧earlyT P ops Q S R rest a' w') Q else S w∧earlyT P ops Q S R rest (a.put o.dst undef) w
theorem closed_first (hb:∀ (k:Nat) (o:Oper),ops[k]? = some o→∀ e ∈ o.after,Region.binds md e=true→e.on<k) (k:Nat) (hk:k≤ops.size):Closed md ops (firstK ops.size k):=by
 intro j o ho hj e he hbd
 rw [firstK_getD _ _ _ _ hk] at hj ⊢
 have hjk:j<k:=by
  by_cases h:j<k
  ·exact h
  ·by_cases h2:j<ops.size <;> simp [h] at hj
 have:=hb j o ho e he hbd
 rw [if_pos (by omega)]
theorem wpOp_of_list {l:List Oper} (k:Nat) (hkl:k<l.length) {a:Act} {w:World} (h:wpList P l.toArray Q (l.drop k) a w):wpOp P l.toArray Q k (wpList P l.toArray Q (l.drop (k+1))) a w:=by
 rw [List.drop_eq_getElem_cons hkl] at h
 unfold wpOp
 have ho:l.toArray[k]? = some l[k]:=by simp [hkl]
 simp only [ho]
 unfold wpList at h
 exact h
theorem wpAnyT_of_list {l:List Oper} {m:Nat} (hready:∀ k,k<l.length→m≤k→Region.ready .any l.toArray (firstK l.length k)=[k]) (hend:Region.ready .any l.toArray (firstK l.length l.length)=[]) (hlt:∀ j,m≤j→late j=true) :
 ∀ (d k:Nat) (a:Act) (w:World),k+d=l.length→m≤k→wpList P l.toArray Q (l.drop k) a w→wpAnyT P .any l.toArray Q S late d (firstK l.length k) a w
 |0,k,a,w,hk,_,h=>by
  obtain rfl:k=l.length:=by omega
  rw [List.drop_length] at h
  exact ⟨hend,h⟩
 |d+1,k,a,w,hk,hm,h=>by
  have hkl:k<l.length:=by omega
  refine ⟨fun e=>(by rw [hready k hkl hm] at e;cases e),fun i hi=>?_⟩
  rw [hready k hkl hm] at hi
  obtain rfl:i=k:=by simpa using hi
  rw [show (firstK l.length i).setIfInBounds i true=firstK l.length (i+1) from firstK_set _ _ hkl]
  exact wpOp_mono (fun a' w' h'=>⟨.inl (hlt i hm),wpAnyT_of_list hready hend hlt d (i+1) a' w' (by omega) (by omega) h'⟩) (wpOp_of_list i hkl h)
theorem wpAnyT_of_early {l:List Oper} {n m:Nat} (hready:∀ k,k<l.length→n≤k→Region.ready .any l.toArray (firstK l.length k)=[k]) (hend:Region.ready .any l.toArray (firstK l.length l.length)=[]) (hlt:∀ j,m≤j→late j=true) (hm:m≤l.length) (hnm:n≤m) :
 ∀ (e k:Nat) (a:Act) (w:World),k+e=m→n≤k→earlyT P l.toArray Q S (fun a' w'=>wpList P l.toArray Q (l.drop m) a' w') ((l.drop k).take e) a w→wpAnyT P .any l.toArray Q S late (l.length-k) (firstK l.length k) a w
 |0,k,a,w,hk,hn,h=>by
  obtain rfl:k=m:=by omega
  rw [List.take_zero] at h
  exact wpAnyT_of_list (fun j h1 h2=>hready j h1 (by omega)) hend hlt (l.length-k) k a w (by omega) (Nat.le_refl _) h
 |e+1,k,a,w,hk,hn,h=>by
  have hkl:k<l.length:=by omega
  rw [show l.length-k=(l.length-(k+1))+1 by omega]
  refine ⟨fun q=>(by rw [hready k hkl hn] at q;cases q),fun i hi=>?_⟩
  rw [hready k hkl hn] at hi
  obtain rfl:i=k:=by simpa using hi
  rw [show (firstK l.length i).setIfInBounds i true=firstK l.length (i+1) from firstK_set _ _ hkl]
  rw [List.drop_eq_getElem_cons hkl,List.take_succ_cons] at h
  have ih:=fun a' w'=>wpAnyT_of_early hready hend hlt hm hnm e (i+1) a' w' (by omega) (by omega)
  unfold earlyT at h
  unfold wpOp
  have ho:l.toArray[i]? = some l[i]:=by simp [hkl]
  simp only [ho]
  split
  ·rename_i hw
   rw [if_pos hw] at h
   have h':wpOp P l.toArray Q i (fun a' w'=>S w'∧earlyT P l.toArray Q S (fun a' w'=>wpList P l.toArray Q (l.drop m) a' w') ((l.drop (i+1)).take e) a' w') a w:=by
    unfold wpOp;simp only [ho,hw,if_true];exact .inl h
   have h2:=wpOp_mono (fun a' w' q=>(⟨.inr (.inr q.1),ih a' w' q.2⟩:(late i=true∨(pureB l.toArray i=true∧¬ S w)∨S w')∧wpAnyT P .any l.toArray Q S late (l.length-(i+1)) (firstK l.length (i+1)) a' w')) h'
   unfold wpOp at h2;simp only [ho,hw,if_true] at h2;exact h2
  ·rename_i hw
   rw [if_neg hw] at h
   exact ⟨.inr (.inr h.1),ih _ _ h.2⟩
theorem wpAnyT_of_reads {l:List Oper} {n:Nat} (hsel:Region.noSelect l.toArray=true) (hfirst:∀ k,k<n→k ∈ Region.ready .any l.toArray (firstK l.length k)∧Region.free .any l.toArray (firstK l.length k) k=true)
 (hlate:∀ i,i<n→pureB l.toArray i=false→∀ j,j<l.length→late j=true→∃ f,waitsB .any l.toArray f j i=true) (hb:∀ (k:Nat) (o:Oper),l.toArray[k]? = some o→∀ e ∈ o.after,Region.binds .any e=true→e.on<k) (hn:n≤l.length)
 (hQ:∀ c a d v w,Q (.panic c) (Act.put a d v) w→Q (.panic c) a w) {w:World} (hS:S w) {R:Act→Prop} (hR:∀ a,R a→wpAnyT P .any l.toArray Q S late (l.length-n) (firstK l.length n) a w) :
 ∀ (e k:Nat) (a:Act),k+e=n→readsT P l.toArray S R ((l.drop k).take e) a→wpAnyT P .any l.toArray Q S late (l.length-k) (firstK l.length k) a w
 |0,k,a,hk,h=>by
  obtain rfl:k=n:=by omega
  rw [List.take_zero] at h
  exact hR a h
 |e+1,k,a,hk,h=>by
  have hkl:k<l.length:=by omega
  rw [List.drop_eq_getElem_cons hkl,List.take_succ_cons] at h
  obtain ⟨v,hy,h⟩:=h
  have ih:=wpAnyT_of_reads hsel hfirst hlate hb hn hQ hS hR e (k+1) _ (by omega) h
  have ho:l.toArray[k]? = some l[k]:=by simp [hkl]
  rw [show l.length-k=(l.length-(k+1))+1 by omega]
  have hf:=hfirst k (by omega)
  rcases hy with ⟨hp,hy⟩|⟨hp,hy⟩
  ·refine wpAnyT_pure ho (hp k ho) (Region.noSelect_spec hsel) (fun c a w q=>hQ c _ _ _ w q) _ _ _ _ (Region.free_spec ho hf.2) hf.1 hy ?_
   rw [firstK_set _ _ hkl];exact ih
  ·refine wpAnyT_first ho (Region.noSelect_spec hsel) (fun c a w q=>hQ c _ _ _ w q) (hlate k (by omega) (hp k ho)) _ _ _ _ ?_ (Region.free_spec ho hf.2) hf.1 hy hS ?_
   ·have:=closed_first (md:=.any) hb k (by simp;omega)
    simpa using this
   ·rw [firstK_set _ _ hkl];exact ih
theorem wp_region_reads {id:Nat} {a:Act} {w:World} {l:List Oper} (n m:Nat) (S:World→Prop) (hm:P.follows .mixedOrders=true) (hB:readsB l.toArray n m=true) (hQ:∀ c a d v w,Q (.panic c) (Act.put a d v) w→Q (.panic c) a w) (hS:S w.drew)
 (h:readsT P l.toArray S (fun a'=>earlyT P l.toArray Q S (fun a' w'=>wpList P l.toArray Q (l.drop m) a' w') ((l.drop n).take (m-n)) a' w.drew) (l.take n) a):(Code.region id l.toArray true).wp P Q a w:=by
 simp only [readsB,Bool.and_eq_true,decide_eq_true_eq,List.all_eq_true,List.mem_range,Bool.or_eq_true,beq_iff_eq,List.contains_iff_mem,List.size_toArray] at hB
 obtain ⟨⟨⟨⟨⟨⟨⟨hsel,hnm⟩,hml⟩,h1⟩,h2⟩,h3⟩,h4⟩,h5⟩:=hB
 have hready:∀ k,k<l.length→n≤k→Region.ready .any l.toArray (firstK l.length k)=[k]:=fun k hk hn=>(h2 k hk).resolve_left (by omega)
 have hb:∀ (k:Nat) (o:Oper),l.toArray[k]? = some o→∀ e ∈ o.after,Region.binds .any e=true→e.on<k:=by
  intro k o ho e he hbd
  have hk:k<l.length:=by simpa using (Array.getElem?_eq_some_iff.1 ho).1
  have:=h5 k hk
  rw [ho] at this
  simp only [Array.all_eq_true_iff_forall_mem,Bool.or_eq_true,Bool.not_eq_true',decide_eq_true_eq] at this
  exact (this e he).resolve_left (by rw [hbd];decide)
 refine wp_region_any hm (wpAny_of_T (S:=S) (late:=fun j=>decide (m≤j)) _ _ _ _ ?_)
 have h0:Array.replicate l.toArray.size false=firstK l.length 0:=by simp [firstK]
 rw [h0]
 have:=wpAnyT_of_reads (P:=P) (Q:=Q) (S:=S) (late:=fun j=>decide (m≤j)) (n:=n) hsel h1
  (fun i hi hp j hj hl=>⟨_,((h4 j hj).resolve_left (by simpa using hl) i hi).resolve_left (by rw [hp];decide)⟩) hb (by omega) hQ (w:=w.drew) hS
  (fun a' ha=>wpAnyT_of_early hready h3 (fun j hj=>by simpa using hj) hml hnm (m-n) n a' w.drew (by omega) (Nat.le_refl _) ha) n 0 a (by omega) (by simpa using h)
 simpa using this
theorem pure_of {o:Oper} {b:Bool} (h:(match o.op with | .load ..=>false | .lookup ..=>false|_=>true)=b) (i:Nat) (hi:ops[i]? = some o):pureB ops i=b:=by
 unfold pureB;rw [hi];exact h
theorem readsT_pure {R:Act→Prop} {o:Oper} {rest:List Oper} {a:Act} (hg:o.guard=none) (hp:(match o.op with | .load ..=>false | .lookup ..=>false|_=>true)=true) (v:Value) (hrun:∀ w,(execOp a.eval o).run P w=.ok (.value v) w) (h:readsT P ops S R rest (a.put o.dst v)):readsT P ops S R (o::rest) a:=
 ⟨v,.inl ⟨pure_of hp,.inl ⟨by simp [Region.wanted,hg],fun w _=>hrun w⟩⟩,h⟩
theorem readsT_load {R:Act→Prop} {o:Oper} {rest:List Oper} {a:Act} (hg:o.guard=none) (hp:(match o.op with | .load ..=>false | .lookup ..=>false|_=>true)=false) (v:Value) (hrun:∀ w,S w→(execOp a.eval o).run P w=.ok (.value v) w) (h:readsT P ops S R rest (a.put o.dst v)):readsT P ops S R (o::rest) a:=
 ⟨v,.inr ⟨pure_of hp,.inl ⟨by simp [Region.wanted,hg],hrun⟩⟩,h⟩
theorem readsT_move {R:Act→Prop} {o:Oper} {rest:List Oper} {a:Act} (hg:o.guard=none) (x:Operand) (ho:o.op=.move x) (v:Value) (hx:a.eval x=v) (h:readsT P ops S R rest (a.put o.dst v)):readsT P ops S R (o::rest) a:=
 readsT_pure hg (by rw [ho]) v (fun w=>by simp [execOp,ho,hx]) h
theorem readsT_load_mid {R:Act→Prop} {op:Oper} {rest:List Oper} {a:Act} (hg:op.guard=none) (ty:TypeId) (x:Operand) (ho:op.op=.load ty x)
 (b o:Nat) (hx:a.eval x=.pointer (some ⟨b,o,none⟩)) (cs:List Value) (d:TypeDesc) (hc:∀ w,S w→w.rangeAt b o cs) (hu:P.underlying ty=some d) (hd:d.isRow=true) (hi:(P.info? ty).map (·.size)=some cs.length)
 (h:readsT P ops S R rest (a.put op.dst (.agg cs.toArray))):readsT P ops S R (op::rest) a:=by
 refine readsT_load hg (by rw [ho]) _ (fun w hS=>?_) h
 have hr:=run_loadAt_mid (P:=P) w b o ty cs d (hc w hS) hu hd hi
 unfold execOp
 simp only [ho,hx,Sem.run_bind,Sem.run_pure,Result.andThen_ok,hr]
theorem earlyT_step {R:Act→World→Prop} {o:Oper} {rest:List Oper} {a:Act} {w:World} (hg:o.guard=none) (h:o.wp P a w (fun a' w'=>S w'∧earlyT P ops Q S R rest a' w') Q):earlyT P ops Q S R (o::rest) a w:=by
 unfold earlyT
 rw [if_pos (by simp [Region.wanted,hg])]
 exact h
end
end Go.Proofs.YtgipenahkmbelaaGreatDoor
namespace Go.Proofs.YtgipenahkmbelaaGreatDoor
open Go Go.RowKit
inductive Pl where
 |nil
 |op (i:Nat) (p:Pl)
 |ef (i:Nat) (U:List Nat) (p:Pl)
 |alt (a b:Pl)
def Pl.heads:Pl→List Nat
 |.nil=>[]
 |.op _ _=>[]
 |.ef i _ _=>[i]
 |.alt a b=>a.heads++b.heads
inductive Path (ops:Array Oper):Nat→Nat→Prop
 |edge {j:Nat} {o:Oper} {e:Edge}:ops[j]? = some o→e ∈ o.after→Region.binds .any e=true→Path ops j e.on
 |step {j i:Nat} {o:Oper} {e:Edge}:ops[j]? = some o→e ∈ o.after→Region.binds .any e=true→Path ops e.on i→Path ops j i
theorem Path.listed {ops:Array Oper} {j i:Nat} (p:Path ops j i) {listed:Array Bool} (hc:Closed .any ops listed) (hj:j ∈ Region.ready .any ops listed∨listed.getD j false=true):listed.getD i false=true:=by
 have one:∀ {j:Nat} {o:Oper} {e:Edge},ops[j]? = some o→e ∈ o.after→Region.binds .any e=true→(j ∈ Region.ready .any ops listed∨listed.getD j false=true)→listed.getD e.on false=true:=by
  intro j o e ho he hb hj
  rcases hj with hj|hj
  ·obtain ⟨_,o',ho',hall⟩:=mem_ready.1 hj
   rw [ho] at ho';cases ho'
   exact hall _ he hb
  ·exact hc j o ho hj _ he hb
 induction p with
 |edge ho he hb=>exact one ho he hb hj
 |step ho he hb _ ih=>exact ih (.inr (one ho he hb hj))
def waitBits (ops:List Oper):Array Nat:=ops.foldl (fun acc o=>acc.push (o.after.toList.foldl (fun s e=>bif Region.binds .any e then s ||| 2 ^ e.on ||| acc.getD e.on 0 else s) 0)) #[]
def BitsOk (ops:Array Oper) (acc:Array Nat):Prop:=∀ j i,(acc.getD j 0).testBit i=true→Path ops j i
theorem waitBits_ok (l:List Oper):BitsOk l.toArray (waitBits l):=by
 have key:∀ (r d:List Oper) (acc:Array Nat),d++r=l→acc.size=d.length→BitsOk l.toArray acc→BitsOk l.toArray (r.foldl (fun acc o=>acc.push (o.after.toList.foldl (fun s e=>bif Region.binds .any e then s ||| 2 ^ e.on ||| acc.getD e.on 0 else s) 0)) acc):=by
  intro r
  induction r with
  |nil=>intro d acc _ _ h;exact h
  |cons o r ih=>
   intro d acc hd hs h
   refine ih (d++[o]) _ (by simp [hd]) (by simp [hs]) ?_
   have ho:l.toArray[d.length]? = some o:=by subst hd;simp
   have inner:∀ (es:List Edge) (s:Nat),(∀ e ∈ es,e ∈ o.after)→(∀ i,s.testBit i=true→Path l.toArray d.length i)→∀ i,(es.foldl (fun s e=>bif Region.binds .any e then s ||| 2 ^ e.on ||| acc.getD e.on 0 else s) s).testBit i=true→Path l.toArray d.length i:=by
    intro es
    induction es with
    |nil=>intro s _ hs i hi;exact hs i hi
    |cons e es ih2=>
     intro s hes hs2
     refine ih2 _ (fun x hx=>hes x (by simp [hx])) ?_
     intro i hi
     dsimp only at hi
     cases hb:Region.binds .any e with
     |false=>rw [hb] at hi;exact hs2 i hi
     |true=>
      rw [hb] at hi
      simp only [cond_true,Nat.testBit_or,Bool.or_eq_true,Nat.testBit_two_pow,decide_eq_true_eq] at hi
      rcases hi with (hi|hi)|hi
      ·exact hs2 i hi
      ·subst hi;exact .edge ho (hes e (by simp)) hb
      ·exact .step ho (hes e (by simp)) hb (h e.on i hi)
   intro j i hj
   by_cases hjl:j=d.length
   ·subst hjl
    have e1:(acc.push (o.after.toList.foldl (fun s e=>bif Region.binds .any e then s ||| 2 ^ e.on ||| acc.getD e.on 0 else s) 0)).getD d.length 0=o.after.toList.foldl (fun s e=>bif Region.binds .any e then s ||| 2 ^ e.on ||| acc.getD e.on 0 else s) 0:=by
     rw [← hs];simp
    rw [e1] at hj
    exact inner o.after.toList 0 (fun e he=>by simpa using he) (fun i hi=>by simp at hi) i hj
   ·have e1:(acc.push (o.after.toList.foldl (fun s e=>bif Region.binds .any e then s ||| 2 ^ e.on ||| acc.getD e.on 0 else s) 0)).getD j 0=acc.getD j 0:=by
     rw [Array.getD_eq_getD_getElem?,Array.getD_eq_getD_getElem?,Array.getElem?_push,if_neg (by omega)]
    rw [e1] at hj
    exact h j i hj
 exact key l [] #[] rfl rfl (fun j i h=>by simp at h)
def ownB (b:Array Nat) (ops:Array Oper) (i:Nat):Bool:=match ops[i]? with
 |none=>false
 |some o=>match o.dst with
  |none=>true
  |some d=>(List.range ops.size).all fun j=>match ops[j]? with
   |none=>true
   |some oj=>(Nat.beq i j || !(oj.dst == some d)) && (!(oj.looksAt ops).contains d || (b.getD j 0).testBit i)
def depsB (ops:Array Oper) (wk:List Nat) (i:Nat):Bool:=match ops[i]? with
 |none=>false
 |some o=>!wk.contains i && o.after.all fun e=>!Region.binds .any e || wk.contains e.on
def coverB (b:Array Nat) (ops:Array Oper) (wk hs:List Nat):Bool:=(List.range ops.size).all fun j=>wk.contains j || hs.contains j || hs.any fun e=>(b.getD j 0).testBit e
def backB (ops:Array Oper):Bool:=Region.noSelect ops && (List.range ops.size).all fun k=>match ops[k]? with
 |none=>true
 |some o=>o.after.all fun e=>!Region.binds .any e || decide (e.on<k)
def planB (b:Array Nat) (ops:Array Oper):Pl→Bool→List Nat→List Nat→Bool
 |.nil,_,wk,_=>coverB b ops wk []
 |.op i p,t,wk,U=>!t && depsB ops wk i && ownB b ops i && planB b ops p false (i::wk) (i::U)
 |.ef i U' p,t,wk,U=>(t || coverB b ops wk [i]) && depsB ops wk i && (U.all fun u=>U'.contains u || (b.getD i 0).testBit u) && (U'.all fun u=>U.contains u) && planB b ops p false (i::wk) U'
 |.alt x y,t,wk,U=>!(x.heads++y.heads).isEmpty && (t || coverB b ops wk (x.heads++y.heads)) && planB b ops x true wk U && planB b ops y true wk U
section
variable (P:Program) (W:World) (n:Nat) (ops:Array Oper) (k:KK)
structure QR (E:Env) (H:List SP) (o:Oper) (v:Value):Prop where
 go:∀ M a w,Hd n E a→St W (H++M) w→(execOp a.eval o).run P w=.ok (.value v) w∨∃ f args,(execOp a.eval o).run P w=.ok (.enter f args) w∧Calls P f args w fun e w'=>e=.returned v∧St W (H++M) w'
structure QV (E:Env) (H:List SP) (o:Oper) (v:Value):Prop where
 go:(∀ a,Hd n E a→Region.wanted o (yielded ops a.tmps)=true)∧QR P W n E H o v∨(∀ a,Hd n E a→Region.wanted o (yielded ops a.tmps)=false)∧v=undef
inductive Rech (E:Env) (H:List SP):List Nat→Prop
 |nil:Rech E H []
 |cons {u:Nat} {U:List Nat} {o:Oper} {v:Value}:ops[u]? = some o→(∀ d,o.dst=some d→Env.at E d=some v)→QV P W n ops E H o v→Rech E H U→Rech E H (u::U)
def FJ:Pl→Env→List SP→Prop
 |.nil,E,H=>KJ W n k E H
 |.op i p,E,H=>∃ o v,ops[i]? = some o∧dstOk n o.dst=true∧QV P W n ops E H o v∧FJ p (Env.put E o.dst v) H
 |.ef i U' p,E,H=>(∃ o,ops[i]? = some o∧(∀ a,Hd n E a→Region.wanted o (yielded ops a.tmps)=true)∧
  KJ W n (.oper P o.op o.dst (.raw fun a w=>∃ E' H',Hd n E' a∧Sta W H' a w∧Rech P W n ops E' H' U'∧FJ p E' H')) E H)∨
  (∃ o,ops[i]? = some o∧(∀ a,Hd n E a→Region.wanted o (yielded ops a.tmps)=false)∧dstOk n o.dst=true∧Rech P W n ops (Env.put E o.dst undef) H U'∧FJ p (Env.put E o.dst undef) H)
 |.alt x y,E,H=>FJ x E H∧FJ y E H
def FlowK (p:Pl) (U:List Nat):Act→World→Prop:=fun a w=>∃ E' H',Hd n E' a∧Sta W H' a w∧Rech P W n ops E' H' U∧FJ P W n ops k p E' H'
end
section
variable {P:Program} {W:World} {n:Nat} {ops:Array Oper} {q:QQ} {k:KK} {g:List Deferred→List Deferred}
def Vir (g:List Deferred→List Deferred) (ops:Array Oper) (U:List Nat) (listed:Array Bool) (a a':Act):Prop:=
 a.defers=g a'.defers∧a.tmps.size=a'.tmps.size∧∀ t,a.tmps[t]? = a'.tmps[t]?∨∃ u ∈ U,listed.getD u false=false∧∃ o,ops[u]? = some o∧o.dst=some t
theorem Vir.eval {U:List Nat} {listed:Array Bool} {a a':Act} (h:Vir g ops U listed a a') {x:Operand} (hx:∀ t,x=.tmp t→∀ u ∈ U,listed.getD u false=false→∀ o,ops[u]? = some o→o.dst≠some t):a.eval x=a'.eval x:=by
 cases x with
 |tmp t=>
  rcases h.2.2 t with e|⟨u,hu,hl,o,ho,hd⟩
  ·simp [Act.eval,e]
  ·exact absurd hd (hx t rfl u hu hl o ho)
 |_=>rfl
theorem own_spec {bb:Array Nat} (hb:BitsOk ops bb) {i:Nat} (h:ownB bb ops i=true) {o:Oper} (ho:ops[i]? = some o) {d:Tmp} (hd:o.dst=some d) {j:Nat} {oj:Oper} (hj:ops[j]? = some oj):(i=j∨oj.dst≠some d)∧(d ∉ oj.looksAt ops∨Path ops j i):=by
 unfold ownB at h
 simp only [ho,hd] at h
 have h2:=List.all_eq_true.1 h j (List.mem_range.2 (Array.getElem?_eq_some_iff.1 hj).1)
 simp only [hj,Bool.and_eq_true,Bool.or_eq_true,Bool.not_eq_true',beq_eq_false_iff_ne] at h2
 refine ⟨h2.1.imp (fun q=>Nat.eq_of_beq_eq_true q) id,h2.2.imp (fun q=>?_) (hb j i)⟩
 intro hm
 have:(oj.looksAt ops).contains d=true:=by simpa using hm
 rw [this] at q;cases q
theorem Vir.sees {U:List Nat} {listed:Array Bool} {a a':Act} (h:Vir g ops U listed a a') (hc:Closed .any ops listed) {bb:Array Nat} (hb:BitsOk ops bb) (hU:∀ u ∈ U,ownB bb ops u=true) {i:Nat} {o:Oper} (ho:ops[i]? = some o) (hr:i ∈ Region.ready .any ops listed) (hsel:∀ cs b,o.op≠.select cs b) :
 execOp a.eval o=execOp a'.eval o∧Region.wanted o (yielded ops a.tmps)=Region.wanted o (yielded ops a'.tmps):=by
 have key:∀ t ∈ o.looksAt ops,∀ u ∈ U,listed.getD u false=false→∀ ou,ops[u]? = some ou→ou.dst≠some t:=by
  intro t ht u hu hl ou hou hd
  rcases (own_spec hb (hU u hu) hou hd ho).2 with h3|h3
  ·exact h3 ht
  ·have:=h3.listed hc (.inl hr)
   rw [hl] at this;cases this
 refine ⟨execOp_congr o hsel fun x hx=>h.eval fun t e u hu hl ou hou=>?_,?_⟩
 ·subst e
  exact key t (List.mem_append_left _ (List.mem_filterMap.2 ⟨.tmp t,by simpa using hx,rfl⟩)) u hu hl ou hou
 ·unfold Region.wanted
  cases hg:o.guard with
  |none=>rfl
  |some gw=>
   obtain ⟨g,want⟩:=gw
   have hy:yielded ops a.tmps g=yielded ops a'.tmps g:=by
    unfold yielded
    cases ht:(ops[g]?).bind (·.dst) with
    |none=>rfl
    |some t=>
     have hm:t ∈ o.looksAt ops:=by simp [Oper.looksAt,hg,ht]
     have:a.tmps[t]? = a'.tmps[t]?:=by
      rcases h.2.2 t with e|⟨u,hu,hl,ou,hou,hd⟩
      ·exact e
      ·exact absurd hd (key t hm u hu hl ou hou)
     simp [this]
   simp only [hy]
def cnt (l:List Bool):Nat:=(l.filter (!·)).length
theorem cnt_set:∀ (l:List Bool) (i:Nat),(l[i]? : Option Bool)=some false→cnt (l.set i true)+1=cnt l
 |[],i,h=>by simp at h
 |b::l,0,h=>by simp at h;subst h;simp [cnt]
 |b::l,i+1,h=>by
  have:=cnt_set l i (by simpa using h)
  unfold cnt at this ⊢
  simp only [List.set_cons_succ,List.filter_cons]
  cases b <;> simp <;> omega
theorem cnt_zero (l:List Bool) (h:cnt l=0):∀ i:Nat,(l[i]? : Option Bool)≠some false:=by
 intro i hi
 have:=cnt_set l i hi
 omega
structure FInv (g:List Deferred→List Deferred) (bb:Array Nat) (P:Program) (W:World) (n:Nat) (ops:Array Oper) (wk U:List Nat) (E:Env) (H:List SP) (fuel:Nat) (listed:Array Bool) (a a':Act) (w:World):Prop where
 size:listed.size=ops.size
 closed:Closed .any ops listed
 cnt:cnt listed.toList≤fuel
 sub:∀ k,listed.getD k false=true→k ∈ wk
 cov:∀ k ∈ wk,listed.getD k false=true∨k ∈ U
 uwk:∀ u ∈ U,u ∈ wk
 own:∀ u ∈ U,ownB bb ops u=true
 hd:Hd n E a'
 rech:Rech P W n ops E H U
 st:Sta W H a' w
 vir:Vir g ops U listed a a'
theorem back_spec (h:backB ops=true):(∀ (j:Nat) (o:Oper) cs b,ops[j]? = some o→o.op≠.select cs b)∧∀ (k:Nat) (o:Oper),ops[k]? = some o→∀ e ∈ o.after,Region.binds .any e=true→e.on<k:=by
 unfold backB at h
 simp only [Bool.and_eq_true] at h
 refine ⟨Region.noSelect_spec h.1,fun k o hk e he hb=>?_⟩
 have h2:=List.all_eq_true.1 h.2 k (List.mem_range.2 (Array.getElem?_eq_some_iff.1 hk).1)
 simp only [hk] at h2
 have h3:=(Array.all_eq_true_iff_forall_mem.1 h2) e he
 simpa [hb] using h3
theorem all_listed (hB:backB ops=true) {listed:Array Bool} (hs:listed.size=ops.size) (h:Region.ready .any ops listed=[]):∀ k,k<ops.size→listed.getD k false=true:=by
 intro k
 induction k using Nat.strongRecOn with
 |_ k ih=>
  intro hk
  cases hl:listed.getD k false with
  |true=>rfl
  |false=>
   exfalso
   have:k ∈ Region.ready .any ops listed:=by
    refine mem_ready.2 ⟨?_,ops[k],by simp [hk],fun e he hb=>?_⟩
    ·have hk':k<listed.size:=by omega
     simp [hk'] at hl ⊢;exact hl
    ·have hlt:=(back_spec hB).2 k ops[k] (by simp [hk]) e he hb
     exact ih e.on hlt (by omega)
   rw [h] at this;cases this
theorem listed_set {listed:Array Bool} {i k:Nat} (h:(listed.setIfInBounds i true).getD k false=true):k=i∨listed.getD k false=true:=by
 by_cases e:i=k
 ·exact .inl e.symm
 ·right;rwa [getD_set_ne false e] at h
theorem FInv.quiet {wk U:List Nat} {E:Env} {H:List SP} {fuel:Nat} {listed:Array Bool} {a a':Act} {w w':World} {bb:Array Nat} (I:FInv g bb P W n ops wk U E H (fuel+1) listed a a' w) {i:Nat} (hr:i ∈ Region.ready .any ops listed) (hi:i ∈ wk) {o:Oper} (ho:ops[i]? = some o) {v:Value} (hv:∀ d,o.dst=some d→Env.at E d=some v) (hw:Sta W H a' w') :
 FInv g bb P W n ops wk U E H fuel (listed.setIfInBounds i true) (a.put o.dst v) a' w':=by
 obtain ⟨h0,_⟩:=mem_ready.1 hr
 have hlt:i<listed.size:=by
  rcases Nat.lt_or_ge i listed.size with h|h
  ·exact h
  ·simp [Array.getElem?_eq_none h] at h0
 have h1:listed.toList[i]? = some false:=by simp [hlt] at h0 ⊢;exact h0
 refine ⟨by simp [I.size],I.closed.set hr,?_,fun k hk=>?_,fun k hk=>(I.cov k hk).imp getD_set_true id,I.uwk,I.own,I.hd,I.rech,hw,?_⟩
 ·have:=cnt_set listed.toList i h1
  have h2:=I.cnt
  simp only [Array.toList_setIfInBounds];omega
 ·rcases listed_set hk with e|e
  ·rw [e];exact hi
  ·exact I.sub k e
 ·obtain ⟨v1,v2,v3⟩:=I.vir
  refine ⟨by cases hd:o.dst <;> simpa [Act.put,hd] using v1,by cases hd:o.dst <;> simpa [Act.put,hd] using v2,fun t=>?_⟩
  by_cases ht:o.dst=some t
  ·left
   have h3:=I.hd.at_ t v (hv t ht)
   have h4:t<a.tmps.size:=by rw [v2];exact (Array.getElem?_eq_some_iff.1 h3).1
   rw [h3];simp [Act.put,ht,h4]
  ·have he:(a.put o.dst v).tmps[t]? = a.tmps[t]?:=by
    cases hd:o.dst with
    |none=>rfl
    |some d=>
     have:d≠t:=fun e=>ht (by rw [hd,e])
     simp [Act.put,Array.getElem?_setIfInBounds_ne this]
   rw [he]
   rcases v3 t with e|⟨u,hu,hl,ou,hou,hd⟩
   ·exact .inl e
   ·refine .inr ⟨u,hu,?_,ou,hou,hd⟩
    have:i≠u:=by
     intro e;subst e
     rw [ho] at hou;cases hou;exact ht hd
    rwa [getD_set_ne false this]
theorem wp_vir {o:Oper} {a a':Act} {w:World} {K:Act→World→Prop} (h:uponP P o a' K ((execOp a'.eval o).run P w)) (he:execOp a.eval o=execOp a'.eval o):uponP P o a (fun a1 w1=>∃ v,a1=a.put o.dst v∧K (a'.put o.dst v) w1) ((execOp a.eval o).run P w):=by
 rw [he]
 generalize (execOp a'.eval o).run P w=r at *
 unfold uponP at h ⊢
 split
 ·exact ⟨_,rfl,h⟩
 ·exact ⟨_,rfl,h⟩
 ·exact h.mono fun e w ⟨v,he,hn⟩=>⟨v,he,_,rfl,hn⟩
 ·exact h.mono fun e w ⟨v,he,hn⟩=>⟨v,he,_,rfl,hn⟩
 ·simp_all
theorem Rech.get {E:Env} {H:List SP} {U:List Nat} (h:Rech P W n ops E H U):∀ u ∈ U,∃ o,ops[u]? = some o∧∃ v,(∀ d,o.dst=some d→Env.at E d=some v)∧QV P W n ops E H o v:=by
 induction h with
 |nil=>intro u hu;cases hu
 |cons ho hv hq _ ih=>
  intro u hu
  rcases List.mem_cons.1 hu with e|e
  ·subst e;exact ⟨_,ho,_,hv,hq⟩
  ·exact ih u e
theorem Rech.of {E:Env} {H:List SP} {U:List Nat} (h:∀ u ∈ U,∃ o,ops[u]? = some o∧∃ v,(∀ d,o.dst=some d→Env.at E d=some v)∧QV P W n ops E H o v):Rech P W n ops E H U:=by
 induction U with
 |nil=>exact .nil
 |cons u U ih=>
  obtain ⟨o,ho,v,hv,hq⟩:=h u (by simp)
  exact .cons ho hv hq (ih fun x hx=>h x (by simp [hx]))
theorem stage {wk U:List Nat} {E:Env} {H:List SP} (hB:backB ops=true) {bb:Array Nat} (hbb:BitsOk ops bb) (hs:List Nat) (hcov:coverB bb ops wk hs=true) (hne:∀ e ∈ hs,e ∉ wk∧e<ops.size)
 (heff:∀ e ∈ hs,∀ fuel listed a a' w,FInv g bb P W n ops wk U E H (fuel+1) listed a a' w→e ∈ Region.ready .any ops listed→wpOpIn (fen q.ro) 0 P ops q.den e (fun a1 w1=>wpAnyIn (fen q.ro) 0 P .any ops q.den fuel (listed.setIfInBounds e true) a1 w1) a w)
 (hend:hs=[]→KJ W n k E H) (hk:∀ a w,k.den a w→q.den .normal { a with defers:=g a.defers } w):∀ fuel listed a a' w,FInv g bb P W n ops wk U E H fuel listed a a' w→wpAnyIn (fen q.ro) 0 P .any ops q.den fuel listed a w:=by
 intro fuel
 have fin:∀ (fuel:Nat) listed a a' w,FInv g bb P W n ops wk U E H fuel listed a a' w→(∀ k,k<ops.size→listed.getD k false=true)→q.den .normal a w:=by
  intro fuel listed a a' w I hall
  have hs0:hs=[]:=by
   cases hs with
   |nil=>rfl
   |cons e hs=>
    have:=hne e (by simp)
    exact absurd (I.sub e (hall e this.2)) this.1
  have ha:a={ a' with defers:=g a'.defers }:=by
   obtain ⟨v1,v2,v3⟩:=I.vir
   have:a.tmps=a'.tmps:=by
    apply Array.ext_getElem?
    intro t
    rcases v3 t with e|⟨u,hu,hl,ou,hou,_⟩
    ·exact e
    ·have:=hall u (Array.getElem?_eq_some_iff.1 hou).1
     rw [hl] at this;cases this
   cases a;cases a';simp_all
  subst ha
  exact hk a' w ((hend hs0).go a' w I.hd I.st)
 induction fuel with
 |zero=>
  intro listed a a' w I
  have hc:cnt listed.toList=0:=by have:=I.cnt;omega
  have hall:∀ k,k<ops.size→listed.getD k false=true:=by
   intro k hk
   have h1:=cnt_zero _ hc k
   have h2:k<listed.size:=by rw [I.size];exact hk
   simp [h2] at h1 ⊢;exact h1
  refine ⟨?_,fin 0 listed a a' w I hall⟩
  cases hr:Region.ready .any ops listed with
  |nil=>rfl
  |cons x xs=>
   have hx:x ∈ Region.ready .any ops listed:=by rw [hr];simp
   obtain ⟨h0,ox,hox,_⟩:=mem_ready.1 hx
   have h1:=hall x (Array.getElem?_eq_some_iff.1 hox).1
   exact (not_both h0 h1).elim
 |succ fuel ih=>
  intro listed a a' w I
  refine ⟨fun h0=>fin _ listed a a' w I (all_listed hB I.size h0),fun i hr=>?_⟩
  obtain ⟨h0,o,ho,_⟩:=mem_ready.1 hr
  have hilt:=(Array.getElem?_eq_some_iff.1 ho).1
  by_cases hi:i ∈ wk
  ·have hU:i ∈ U:=by
    rcases I.cov i hi with h|h
    ·exact (not_both h0 h).elim
    ·exact h
   obtain ⟨o',ho',v,hv,hq⟩:=I.rech.get i hU
   rw [ho] at ho'
   cases ho'
   obtain ⟨hex,hwn⟩:=I.vir.sees I.closed hbb I.own ho hr ((back_spec hB).1 i o · · ho)
   unfold wpOpIn
   simp only [ho]
   rcases hq.go with ⟨hw,hqr⟩|⟨hw,rfl⟩
   ·rw [if_pos (by rw [hwn];exact hw a' I.hd)]
    refine uponP.wpIn _ _ ?_
    rw [hex]
    rcases hqr.go _ a' w I.hd I.st with hrun|⟨f,args,hrun,hcall⟩
    ·rw [hrun]
     exact ih _ _ _ _ (I.quiet hr hi ho hv I.st)
    ·rw [hrun]
     refine hcall.mono ?_
     rintro e w' ⟨rfl,hst⟩
     exact ⟨_,rfl,ih _ _ _ _ (I.quiet hr hi ho hv hst)⟩
   ·rw [if_neg (by rw [hwn,hw a' I.hd];simp)]
    exact ⟨fun _ _=>trivial,ih _ _ _ _ (I.quiet hr hi ho hv I.st)⟩
  ·have h2:=List.all_eq_true.1 hcov i (List.mem_range.2 hilt)
   simp only [Bool.or_eq_true,List.contains_iff_mem,List.any_eq_true] at h2
   rcases h2 with (h2|h2)|⟨e,he,hw⟩
   ·exact absurd h2 hi
   ·exact heff i h2 fuel listed a a' w I hr
   ·have hl:=(hbb i e hw).listed I.closed (.inl hr)
    exact absurd (I.sub e hl) (hne e he).1
theorem deps_spec {wk:List Nat} {i:Nat} (h:depsB ops wk i=true):i ∉ wk∧i<ops.size:=by
 unfold depsB at h
 cases ho:ops[i]? with
 |none=>simp [ho] at h
 |some o=>
  simp only [ho,Bool.and_eq_true,Bool.not_eq_true'] at h
  refine ⟨fun hm=>?_,(Array.getElem?_eq_some_iff.1 ho).1⟩
  have:wk.contains i=true:=by simpa using hm
  rw [this] at h;cases h.1
theorem heads_spec {bb:Array Nat}:∀ (p:Pl) (t:Bool) (wk U:List Nat),planB bb ops p t wk U=true→∀ e ∈ p.heads,e ∉ wk∧e<ops.size
 |.nil,_,_,_,_,e,he=>by cases he
 |.op i p,_,_,_,_,e,he=>by cases he
 |.ef i U' p,t,wk,U,h,e,he=>by
  have he:e=i:=by simpa [Pl.heads] using he
  subst he
  simp only [planB,Bool.and_eq_true] at h
  exact deps_spec h.1.1.1.2
 |.alt x y,t,wk,U,h,e,he=>by
  simp only [planB,Bool.and_eq_true] at h
  rcases List.mem_append.1 he with he|he
  ·exact heads_spec x true wk U h.1.2 e he
  ·exact heads_spec y true wk U h.2 e he
theorem QV.put {E:Env} {H:List SP} {o:Oper} {v x:Value} {d:Option Tmp} (h:QV P W n ops E H o v) (hd:∀ t,d=some t→t ∉ o.looksAt ops) (hsel:∀ cs b,o.op≠.select cs b):QV P W n ops (Env.put E d x) H o v:=by
 cases d with
 |none=>exact h
 |some d=>
  have key:∀ a,Hd n ((d,x)::E) a→∃ u,Hd n E (a.put (some d) u):=by
   intro a p
   cases he:Env.at E d with
   |none=>
    refine ⟨a.tmps.getD d undef,?_,fun t u q=>?_⟩
    ·simpa [Act.put] using p.size
    ·have hne:d≠t:=fun e=>by subst e;rw [he] at q;cases q
     have:=p.at_ t u (by rw [Env.at_cons,if_neg hne];exact q)
     simpa [Act.put,Array.getElem?_setIfInBounds_ne hne] using this
   |some u=>
    refine ⟨u,?_,fun t u' q=>?_⟩
    ·simpa [Act.put] using p.size
    ·by_cases hne:d=t
     ·subst hne
      rw [he] at q;cases q
      have:=p.at_ d x (Env.at_self _ _ _)
      have hl:=(Array.getElem?_eq_some_iff.1 this).1
      simp [Act.put,hl]
     ·have:=p.at_ t u' (by rw [Env.at_cons,if_neg hne];exact q)
      simpa [Act.put,Array.getElem?_setIfInBounds_ne hne] using this
  have hd':=hd d rfl
  refine ⟨?_⟩
  rcases h.go with ⟨hw,hq⟩|⟨hw,rfl⟩
  ·refine .inl ⟨fun a p=>?_,⟨fun M a w p s=>?_⟩⟩
   ·obtain ⟨u,pu⟩:=key a p
    rw [← hw _ pu,wanted_put o a (some d) u (fun t e=>by cases e;exact hd')]
   ·obtain ⟨u,pu⟩:=key a p
    have:=hq.go M _ w pu s
    rwa [execOp_put o hsel a (some d) u (fun t e=>by cases e;exact hd')] at this
  ·refine .inr ⟨fun a p=>?_,rfl⟩
   obtain ⟨u,pu⟩:=key a p
   rw [← hw _ pu,wanted_put o a (some d) u (fun t e=>by cases e;exact hd')]
theorem getD_false_of {listed:Array Bool} {i:Nat} (h:¬ listed.getD i false=true):listed.getD i false=false:=by
 cases q:listed.getD i false with
 |false=>rfl
 |true=>exact absurd q h
theorem path_lt (hB:backB ops=true) {j i:Nat} (p:Path ops j i):i<j:=by
 induction p with
 |edge ho he hb=>exact (back_spec hB).2 _ _ ho _ he hb
 |step ho he hb _ ih=>have:=(back_spec hB).2 _ _ ho _ he hb;omega
def WkOk (ops:Array Oper) (wk:List Nat):Prop:=∀ k ∈ wk,∀ o,ops[k]? = some o→∀ e ∈ o.after,Region.binds .any e=true→e.on ∈ wk
theorem WkOk.path {wk:List Nat} (h:WkOk ops wk) {j i:Nat} (p:Path ops j i) (hj:j ∈ wk):i ∈ wk:=by
 induction p with
 |edge ho he hb=>exact h _ hj _ ho _ he hb
 |step ho he hb _ ih=>exact ih (h _ hj _ ho _ he hb)
theorem WkOk.cons {wk:List Nat} (h:WkOk ops wk) {i:Nat} (hd:depsB ops wk i=true):WkOk ops (i::wk):=by
 intro k hk o ho e he hb
 rcases List.mem_cons.1 hk with q|q
 ·subst q
  unfold depsB at hd
  simp only [ho,Bool.and_eq_true] at hd
  have:=(Array.all_eq_true_iff_forall_mem.1 hd.2) e he
  simp only [hb,Bool.not_true,Bool.false_or] at this
  simp [show e.on ∈ wk by simpa using this]
 ·simp [h k q o ho e he hb]
theorem set_self {listed:Array Bool} {i:Nat} (hr:i ∈ Region.ready .any ops listed):(listed.setIfInBounds i true).getD i false=true:=by
 obtain ⟨h0,_⟩:=mem_ready.1 hr
 have hlt:i<listed.size:=by
  rcases Nat.lt_or_ge i listed.size with h|h
  ·exact h
  ·simp [Array.getElem?_eq_none h] at h0
 simp [hlt]
theorem FJ.sound (hk:∀ a w,k.den a w→q.den .normal { a with defers:=g a.defers } w) (hB:backB ops=true) {bb:Array Nat} (hbb:BitsOk ops bb):∀ (p:Pl) (t:Bool) (wk U:List Nat) (E:Env) (H:List SP),planB bb ops p t wk U=true→WkOk ops wk→FJ P W n ops k p E H→
 (t=false→∀ fuel listed a a' w,FInv g bb P W n ops wk U E H fuel listed a a' w→wpAnyIn (fen q.ro) 0 P .any ops q.den fuel listed a w)∧
 (∀ e ∈ p.heads,∀ fuel listed a a' w,FInv g bb P W n ops wk U E H (fuel+1) listed a a' w→e ∈ Region.ready .any ops listed→wpOpIn (fen q.ro) 0 P ops q.den e (fun a1 w1=>wpAnyIn (fen q.ro) 0 P .any ops q.den fuel (listed.setIfInBounds e true) a1 w1) a w):=by
 intro p
 induction p with
 |nil=>
  intro t wk U E H hp _ h
  refine ⟨fun _=>stage hB hbb [] hp (fun e he=>by cases he) (fun e he=>by cases he) (fun _=>h) hk,fun e he=>by cases he⟩
 |op i p ih=>
  intro t wk U E H hp hwk h
  simp only [planB,Bool.and_eq_true,Bool.not_eq_true'] at hp
  obtain ⟨⟨⟨ht,hdeps⟩,hown⟩,hp⟩:=hp
  refine ⟨fun _=>?_,fun e he=>by cases he⟩
  obtain ⟨o,v,ho,hdst,hq,hF⟩:=h
  intro fuel listed a a' w I
  have hni:=deps_spec hdeps
  have hnl:¬ listed.getD i false=true:=fun hl=>hni.1 (I.sub i hl)
  refine (ih false (i::wk) (i::U) (Env.put E o.dst v) H hp (hwk.cons hdeps) hF).1 rfl fuel listed a (a'.put o.dst v) w ⟨I.size,I.closed,I.cnt,fun k hk=>by simp [I.sub k hk],fun k hk=>?_,fun u hu=>?_,fun u hu=>?_,I.hd.put hdst v,?_,(by show St W (H++dm (a'.put o.dst v).defers) w;rw [put_defers];exact I.st),?_⟩
  ·rcases List.mem_cons.1 hk with e|e
   ·right;simp [e]
   ·exact (I.cov k e).imp id (fun q=>by simp [q])
  ·rcases List.mem_cons.1 hu with e|e
   ·simp [e]
   ·simp [I.uwk u e]
  ·rcases List.mem_cons.1 hu with e|e
   ·rw [e];exact hown
   ·exact I.own u e
  ·refine Rech.of fun u hu=>?_
   have hlook:∀ ou,ops[u]? = some ou→∀ tt,o.dst=some tt→tt ∉ ou.looksAt ops:=by
    intro ou hou tt htt hm
    rcases (own_spec hbb hown ho htt hou).2 with h1|h1
    ·exact h1 hm
    ·rcases List.mem_cons.1 hu with e|e
     ·subst e
      have:=path_lt hB h1
      omega
     ·exact hni.1 (hwk.path h1 (I.uwk u e))
   rcases List.mem_cons.1 hu with e|e
   ·subst e
    refine ⟨o,ho,v,fun d hd=>by rw [hd];exact Env.at_self _ _ _,hq.put (hlook o ho) ((back_spec hB).1 _ o · · ho)⟩
   ·obtain ⟨ou,hou,vu,hvu,hqu⟩:=I.rech.get u e
    refine ⟨ou,hou,vu,fun d hd=>?_,hqu.put (hlook ou hou) ((back_spec hB).1 _ ou · · hou)⟩
    have hne:o.dst≠some d:=by
     rcases (own_spec hbb (I.own u e) hou hd ho).1 with h1|h1
     ·subst h1;exact absurd (I.uwk u e) hni.1
     ·exact h1
    cases hod:o.dst with
    |none=>exact hvu d hd
    |some d'=>
     show Env.at ((d',v)::E) d=_
     rw [Env.at_cons,if_neg (fun h=>hne (by rw [hod,h]))]
     exact hvu d hd
  ·obtain ⟨v1,v2,v3⟩:=I.vir
   refine ⟨by cases hd:o.dst <;> simpa [Act.put,hd] using v1,by cases hd:o.dst <;> simpa [Act.put,hd] using v2,fun tt=>?_⟩
   by_cases htt:o.dst=some tt
   ·exact .inr ⟨i,by simp,getD_false_of hnl,o,ho,htt⟩
   ·have he:(a'.put o.dst v).tmps[tt]? = a'.tmps[tt]?:=by
     cases hd:o.dst with
     |none=>rfl
     |some d=>
      have:d≠tt:=fun e=>htt (by rw [hd,e])
      simp [Act.put,Array.getElem?_setIfInBounds_ne this]
    rw [he]
    exact (v3 tt).imp id fun ⟨u,hu,r⟩=>⟨u,by simp [hu],r⟩
 |ef i U' p ih=>
  intro t wk U E H hp hwk h
  have hp0:=hp
  simp only [planB,Bool.and_eq_true,Bool.or_eq_true] at hp
  obtain ⟨⟨⟨⟨hcov,hdeps⟩,hU⟩,hU'⟩,hp⟩:=hp
  have hni:=deps_spec hdeps
  have hsub:∀ u ∈ U',u ∈ U:=fun u hu=>by simpa using List.all_eq_true.1 hU' u hu
  have heff:∀ e ∈ (Pl.ef i U' p).heads,∀ fuel listed a a' w,FInv g bb P W n ops wk U E H (fuel+1) listed a a' w→e ∈ Region.ready .any ops listed→wpOpIn (fen q.ro) 0 P ops q.den e (fun a1 w1=>wpAnyIn (fen q.ro) 0 P .any ops q.den fuel (listed.setIfInBounds e true) a1 w1) a w:=by
   intro e he fuel listed a a' w I hr
   have he:e=i:=by simpa [Pl.heads] using he
   subst he
   have build:∀ (o:Oper),ops[e]? = some o→∀ (v:Value) (w1:World) (E':Env) (H':List SP),Hd n E' (a'.put o.dst v)→Sta W H' (a'.put o.dst v) w1→Rech P W n ops E' H' U'→FInv g bb P W n ops (e::wk) U' E' H' fuel (listed.setIfInBounds e true) (a.put o.dst v) (a'.put o.dst v) w1:=by
    intro o ho v w1 E' H' hd' st' re'
    obtain ⟨h0,_⟩:=mem_ready.1 hr
    have hlt:e<listed.size:=by
     rcases Nat.lt_or_ge e listed.size with h|h
     ·exact h
     ·simp [Array.getElem?_eq_none h] at h0
    have h1:(listed.toList[e]? : Option Bool)=some false:=by simp [hlt] at h0 ⊢;exact h0
    refine ⟨by simp [I.size],I.closed.set hr,?_,fun k hk=>?_,fun k hk=>?_,fun u hu=>?_,fun u hu=>I.own u (hsub u hu),hd',re',st',?_⟩
    ·have:=cnt_set listed.toList e h1
     have h2:=I.cnt
     simp only [Array.toList_setIfInBounds];omega
    ·rcases listed_set hk with q|q
     ·simp [q]
     ·simp [I.sub k q]
    ·rcases List.mem_cons.1 hk with q|q
     ·subst q;exact .inl (set_self hr)
     ·rcases I.cov k q with c|c
      ·exact .inl (getD_set_true c)
      ·have h3:=List.all_eq_true.1 hU k c
       simp only [Bool.or_eq_true,List.contains_iff_mem] at h3
       rcases h3 with h3|h3
       ·exact .inr h3
       ·exact .inl (getD_set_true ((hbb e k h3).listed I.closed (.inl hr)))
    ·simp [I.uwk u (hsub u hu)]
    ·obtain ⟨v1,v2,v3⟩:=I.vir
     refine ⟨by cases hd:o.dst <;> simpa [Act.put,hd] using v1,by cases hd:o.dst <;> simpa [Act.put,hd] using v2,fun tt=>?_⟩
     by_cases htt:o.dst=some tt
     ·left
      simp only [Act.put,htt,Array.getElem?_setIfInBounds,v2]
      simp
     ·have hpt:∀ b:Act,(b.put o.dst v).tmps[tt]? = b.tmps[tt]?:=by
       intro b
       cases hd:o.dst with
       |none=>rfl
       |some d=>
        have:d≠tt:=fun e=>htt (by rw [hd,e])
        simp [Act.put,Array.getElem?_setIfInBounds_ne this]
      rw [hpt,hpt]
      rcases v3 tt with c|⟨u,hu,hl,ou,hou,hdu⟩
      ·exact .inl c
      ·have hne:e≠u:=fun h=>by subst h;exact hni.1 (I.uwk _ hu)
       refine .inr ⟨u,?_,by rwa [getD_set_ne false hne],ou,hou,hdu⟩
       have h3:=List.all_eq_true.1 hU u hu
       simp only [Bool.or_eq_true,List.contains_iff_mem] at h3
       rcases h3 with h3|h3
       ·exact h3
       ·have:=(hbb e u h3).listed I.closed (.inl hr)
        rw [hl] at this;cases this
   rcases h with ⟨o,ho,hwant,hk⟩|⟨o,ho,hwant,hdst,hre,hF⟩
   ·obtain ⟨hex,hwn⟩:=I.vir.sees I.closed hbb I.own ho hr ((back_spec hB).1 _ o · · ho)
    unfold wpOpIn
    simp only [ho]
    rw [if_pos (by rw [hwn];exact hwant a' I.hd)]
    refine uponP.wpIn _ _ ((wp_vir (hk.go a' w I.hd I.st o rfl rfl) hex).mono ?_)
    rintro a1 w1 ⟨v,rfl,E',H',hd',st',re',fj'⟩
    exact (ih false (e::wk) U' E' H' hp (hwk.cons hdeps) fj').1 rfl fuel _ _ _ w1 (build o ho v w1 E' H' hd' st' re')
   ·obtain ⟨hex,hwn⟩:=I.vir.sees I.closed hbb I.own ho hr ((back_spec hB).1 _ o · · ho)
    unfold wpOpIn
    simp only [ho]
    rw [if_neg (by rw [hwn,hwant a' I.hd];simp)]
    exact ⟨fun _ _=>trivial,(ih false (e::wk) U' _ H hp (hwk.cons hdeps) hF).1 rfl fuel _ _ _ w (build o ho undef w _ H (I.hd.put hdst undef) (by show St W (H++dm (a'.put o.dst undef).defers) w;rw [put_defers];exact I.st) hre)⟩
  refine ⟨fun htf=>?_,heff⟩
  subst htf
  exact stage hB hbb [i] (by simpa using hcov) (heads_spec (.ef i U' p) false wk U hp0) heff (fun h=>by cases h) hk
 |alt x y ihx ihy=>
  intro t wk U E H hp hwk h
  have hp0:=hp
  simp only [planB,Bool.and_eq_true,Bool.or_eq_true] at hp
  obtain ⟨⟨⟨hnil,hcov⟩,hx⟩,hy⟩:=hp
  have heff:∀ e ∈ (Pl.alt x y).heads,∀ fuel listed a a' w,FInv g bb P W n ops wk U E H (fuel+1) listed a a' w→e ∈ Region.ready .any ops listed→wpOpIn (fen q.ro) 0 P ops q.den e (fun a1 w1=>wpAnyIn (fen q.ro) 0 P .any ops q.den fuel (listed.setIfInBounds e true) a1 w1) a w:=by
   intro e he
   rcases List.mem_append.1 he with he|he
   ·exact (ihx true wk U E H hx hwk h.1).2 e he
   ·exact (ihy true wk U E H hy hwk h.2).2 e he
  refine ⟨fun htf=>?_,heff⟩
  subst htf
  exact stage hB hbb (x.heads++y.heads) (by simpa using hcov) (heads_spec (.alt x y) false wk U hp0) heff (fun h=>by rw [h] at hnil;cases hnil) hk
end
section
variable {P:Program} {W:World} {n:Nat} {ops:Array Oper} {q:QQ} {k:KK} {E:Env} {H:List SP} {l:List Oper} {op:Op} {d:Nat} {dd:Option Tmp} {ty:TypeId} {pos:String} {af:Array Edge} {p:Pl} {i:Nat}
def drawB (ops:List Oper) (p:Pl):Bool:=backB ops.toArray && planB (waitBits ops) ops.toArray p false [] []
theorem cnt_replicate (m:Nat):cnt (List.replicate m false)=m:=by
 unfold cnt
 induction m with
 |zero=>rfl
 |succ m ih=>simp [List.replicate_succ] at ih ⊢
theorem drawn_any {id:Nat} {g:List Deferred→List Deferred} (hk:∀ a w,k.den a w→q.den .normal { a with defers:=g a.defers } w) (p:Pl) (hm:P.follows .mixedOrders=true) (hB:drawB l p=true) (h:FJ P W n l.toArray k p E H) {a:Act} {w:World} (hd:Hd n E a) (st:Sta W H a w):(Code.region id l.toArray true).wpIn (fen q.ro) 0 P q.den { a with defers:=g a.defers } w:=by
 simp only [drawB,Bool.and_eq_true] at hB
 refine wpIn_region_any hm ?_
 refine (FJ.sound hk hB.1 (waitBits_ok l) p false [] [] E H hB.2 (fun k hk=>by cases hk) h).1 rfl _ _ _ a _ ⟨by simp,fun k o _ hl=>(by rw [getD_replicate_false] at hl;cases hl),?_,fun k hk=>(by rw [getD_replicate_false] at hk;cases hk),fun k hk=>(by cases hk),fun u hu=>(by cases hu),fun u hu=>(by cases hu),hd,.nil,st.drawn _,rfl,rfl,fun t=>.inl rfl⟩
 rw [Array.toList_replicate,cnt_replicate]
 exact Nat.le_refl _
theorem KJ_drawn {id:Nat} (p:Pl) (hm:P.follows .mixedOrders=true) (hB:drawB l p=true) (h:FJ P W n l.toArray (.ex q .normal) p E H):KJ W n (.code P (Code.region id l.toArray true) q) E H:=
 ⟨fun _ _ hd st=>drawn_any (g:=fun l=>l) (k:=.ex q .normal) (fun _ _ h=>h) p hm hB h hd st⟩
theorem QV.ev {v:Value} {o:Oper} (hg:o.guard=none) (h:Ev P W n E H o.op v):QV P W n ops E H o v:=
 ⟨.inl ⟨fun a _=>by simp [Region.wanted,hg],⟨fun _ a w p s=>.inl (h.go o rfl a w p s.left)⟩⟩⟩
theorem QV.evg {v:Value} {o:Oper} {j t:Nat} {b:Bool} (hg:o.guard=some (j,b)) (hj:(ops[j]?).bind (·.dst)=some t) (ht:Env.at E t=some (.bool b)) (h:Ev P W n E H o.op v):QV P W n ops E H o v:=
 ⟨.inl ⟨fun a p=>by rw [wanted_of hg hj p ht];simp,⟨fun _ a w p s=>.inl (h.go o rfl a w p s.left)⟩⟩⟩
theorem QV.no {o:Oper} {j t:Nat} {b:Bool} {v:Value} (hg:o.guard=some (j,b)) (hj:(ops[j]?).bind (·.dst)=some t) (ht:Env.at E t=some v) (hv:notB b v=true):QV P W n ops E H o undef:=
 ⟨.inr ⟨fun a p=>by rw [wanted_of hg hj p ht];cases v <;> simp_all [notB],rfl⟩⟩
theorem QR.call {o:Oper} {f:FuncId} {xs:List Operand} {ts:Array TypeId} {vs:List Value} {Hpre R:List SP} {v:Value} {X:Type} (ho:o.op=.call { callee:=.value (.func f),args:=xs.toArray,argTypes:=ts }) (hx:Evs E xs vs) [hf:FnIs P f]
 (hc:Ct P W f vs Hpre (fun _:X=>v) (fun _=>Hpre)) (hp:Pick Hpre H R):QR P W n E H o v:=
 ⟨fun M _ w p s=>.inr ⟨f,_,run_call ho hx p w,(hc.go (R++M) w (s.perm ((hp.perm.append_right _).trans (by rw [List.append_assoc])))).mono fun _ _ ⟨_,he,hs⟩=>⟨he,hs.perm ((show (Hpre++(R++M)).Perm ((Hpre++R)++M) by rw [List.append_assoc]).trans (hp.perm.symm.append_right _))⟩⟩⟩
theorem QV.call {f:FuncId} {xs:List Operand} {ts:Array TypeId} {vs:List Value} {Hpre R:List SP} {v:Value} {X:Type} {o:Oper} (hg:o.guard=none) (ho:o.op=.call { callee:=.value (.func f),args:=xs.toArray,argTypes:=ts }) (hx:Evs E xs vs) [hf:FnIs P f]
 (hc:Ct P W f vs Hpre (fun _:X=>v) (fun _=>Hpre)) (hp:Pick Hpre H R):QV P W n ops E H o v:=
 ⟨.inl ⟨fun a _=>by simp [Region.wanted,hg],QR.call ho hx hc hp⟩⟩
theorem QV.callg {f:FuncId} {xs:List Operand} {ts:Array TypeId} {vs:List Value} {Hpre R:List SP} {v:Value} {X:Type} {o:Oper} {j t:Nat} {b:Bool} (hg:o.guard=some (j,b)) (hj:(ops[j]?).bind (·.dst)=some t) (ht:Env.at E t=some (.bool b)) (ho:o.op=.call { callee:=.value (.func f),args:=xs.toArray,argTypes:=ts }) (hx:Evs E xs vs) [hf:FnIs P f]
 (hc:Ct P W f vs Hpre (fun _:X=>v) (fun _=>Hpre)) (hp:Pick Hpre H R):QV P W n ops E H o v:=
 ⟨.inl ⟨fun a p=>by rw [wanted_of hg hj p ht];simp,QR.call ho hx hc hp⟩⟩
structure FW (P:Program) (W:World) (n:Nat) (ops:Array Oper) (k:KK) (p:Pl) (E:Env) (H:List SP):Prop where
 go:FJ P W n ops k p E H
structure FO (P:Program) (W:World) (n:Nat) (ops:Array Oper) (k:KK) (o:Oper) (p:Pl) (E:Env) (H:List SP):Prop where
 go:∃ v,dstOk n o.dst=true∧QV P W n ops E H o v∧FJ P W n ops k p (Env.put E o.dst v) H
structure RO (P:Program) (W:World) (n:Nat) (ops:Array Oper) (o:Oper) (U:List Nat) (E:Env) (H:List SP):Prop where
 go:∃ v,(∀ d,o.dst=some d→Env.at E d=some v)∧QV P W n ops E H o v∧Rech P W n ops E H U
theorem zAa {id:Nat} (p:Pl) (hm:P.follows .mixedOrders=true) (hB:drawB l p=true) (h:FW P W n l.toArray (.ex q .normal) p E H):KJ W n (.code P (Code.region id l.toArray true) q) E H:=KJ_drawn p hm hB h.go
theorem FW_nil (h:KJ W n k E H):FW P W n ops k .nil E H:=⟨h⟩
theorem FW_open {o:Oper} (ho:ops[i]? = some o) (h:FO P W n ops k o p E H):FW P W n ops k (.op i p) E H:=by
 obtain ⟨v,h1,h2,h3⟩:=h.go
 exact ⟨⟨o,v,ho,h1,h2,h3⟩⟩
theorem FO_op {v:Value} (hv:Ev P W n E H op v) (hn:Nat.blt d n=true) (h:FW P W n ops k p ((d,v)::E) H):FO P W n ops k ⟨some d,op,ty,pos,af,none⟩ p E H:=⟨⟨v,hn,QV.ev rfl hv,h.go⟩⟩
theorem FO_yes {j t:Nat} {b:Bool} {v:Value} (hj:(ops[j]?).bind (·.dst)=some t) (ht:Env.at E t=some (.bool b)) (hv:Ev P W n E H op v) (hn:Nat.blt d n=true) (h:FW P W n ops k p ((d,v)::E) H):FO P W n ops k ⟨some d,op,ty,pos,af,some (j,b)⟩ p E H:=⟨⟨v,hn,QV.evg rfl hj ht hv,h.go⟩⟩
theorem FO_no {j t:Nat} {b:Bool} {v:Value} (hj:(ops[j]?).bind (·.dst)=some t) (ht:Env.at E t=some v) (hv:notB b v=true) (hn:dstOk n dd=true) (h:FW P W n ops k p (Env.put E dd undef) H):FO P W n ops k ⟨dd,op,ty,pos,af,some (j,b)⟩ p E H:=⟨⟨undef,hn,QV.no rfl hj ht hv,h.go⟩⟩
theorem FO_call {f:FuncId} {xs:List Operand} {ts:Array TypeId} {vs:List Value} {Hpre R:List SP} {v:Value} {X:Type} (hx:Evs E xs vs) [hf:FnIs P f]
 (hc:Ct P W f vs Hpre (fun _:X=>v) (fun _=>Hpre)) (hp:Pick Hpre H R) (hn:Nat.blt d n=true) (h:FW P W n ops k p ((d,v)::E) H):FO P W n ops k ⟨some d,.call { callee:=.value (.func f),args:=xs.toArray,argTypes:=ts },ty,pos,af,none⟩ p E H:=⟨⟨v,hn,QV.call rfl rfl hx hc hp,h.go⟩⟩
theorem FO_callg {f:FuncId} {xs:List Operand} {ts:Array TypeId} {vs:List Value} {Hpre R:List SP} {v:Value} {X:Type} {j t:Nat} {b:Bool} (hj:(ops[j]?).bind (·.dst)=some t) (ht:Env.at E t=some (.bool b)) (hx:Evs E xs vs) [hf:FnIs P f]
 (hc:Ct P W f vs Hpre (fun _:X=>v) (fun _=>Hpre)) (hp:Pick Hpre H R) (hn:Nat.blt d n=true) (h:FW P W n ops k p ((d,v)::E) H):FO P W n ops k ⟨some d,.call { callee:=.value (.func f),args:=xs.toArray,argTypes:=ts },ty,pos,af,some (j,b)⟩ p E H:=⟨⟨v,hn,QV.callg rfl hj ht rfl hx hc hp,h.go⟩⟩
theorem FW_ef {U:List Nat} (ho:ops[i]? = some ⟨dd,op,ty,pos,af,none⟩) (h:KJ W n (.oper P op dd (.raw (FlowK P W n ops k p U))) E H):FW P W n ops k (.ef i U p) E H:=⟨.inl ⟨_,ho,fun a _=>by simp [Region.wanted],h⟩⟩
theorem FW_efg {U:List Nat} {j t:Nat} {b:Bool} (ho:ops[i]? = some ⟨dd,op,ty,pos,af,some (j,b)⟩) (hj:(ops[j]?).bind (·.dst)=some t) (ht:Env.at E t=some (.bool b)) (h:KJ W n (.oper P op dd (.raw (FlowK P W n ops k p U))) E H):FW P W n ops k (.ef i U p) E H:=⟨.inl ⟨_,ho,fun a p=>by rw [wanted_of rfl hj p ht];simp,h⟩⟩
theorem zAn {U:List Nat} {j t:Nat} {b:Bool} {v:Value} (ho:ops[i]? = some ⟨dd,op,ty,pos,af,some (j,b)⟩) (hj:(ops[j]?).bind (·.dst)=some t) (ht:Env.at E t=some v) (hv:notB b v=true) (hn:dstOk n dd=true) (hr:Rech P W n ops (Env.put E dd undef) H U) (h:FW P W n ops k p (Env.put E dd undef) H):FW P W n ops k (.ef i U p) E H:=by
 exact ⟨.inr ⟨_,ho,fun a p=>by rw [wanted_of rfl hj p ht];cases v <;> simp_all [notB],hn,hr,h.go⟩⟩
theorem zAp {x y:Pl} (hx:FW P W n ops k x E H) (hy:FW P W n ops k y E H):FW P W n ops k (.alt x y) E H:=⟨⟨hx.go,hy.go⟩⟩
theorem zAg {U:List Nat} (hr:Rech P W n ops E H U) (h:FW P W n ops k p E H):KJ W n (.raw (FlowK P W n ops k p U)) E H:=⟨fun _ _ hd st=>⟨E,H,hd,st,hr,h.go⟩⟩
theorem Rech_open {u:Nat} {U:List Nat} {o:Oper} (ho:ops[u]? = some o) (h:RO P W n ops o U E H):Rech P W n ops E H (u::U):=by
 obtain ⟨v,h1,h2,h3⟩:=h.go
 exact .cons ho h1 h2 h3
theorem RO_op {U:List Nat} {v:Value} (hd:Env.at E d=some v) (hv:Ev P W n E H op v) (h:Rech P W n ops E H U):RO P W n ops ⟨some d,op,ty,pos,af,none⟩ U E H:=⟨⟨v,fun _ e=>by cases e;exact hd,QV.ev rfl hv,h⟩⟩
theorem RO_yes {U:List Nat} {j t:Nat} {b:Bool} {v:Value} (hd:Env.at E d=some v) (hj:(ops[j]?).bind (·.dst)=some t) (ht:Env.at E t=some (.bool b)) (hv:Ev P W n E H op v) (h:Rech P W n ops E H U):RO P W n ops ⟨some d,op,ty,pos,af,some (j,b)⟩ U E H:=⟨⟨v,fun _ e=>by cases e;exact hd,QV.evg rfl hj ht hv,h⟩⟩
theorem RO_no {U:List Nat} {j t:Nat} {b:Bool} {v:Value} (hd:Env.at E d=some undef) (hj:(ops[j]?).bind (·.dst)=some t) (ht:Env.at E t=some v) (hv:notB b v=true) (h:Rech P W n ops E H U):RO P W n ops ⟨some d,op,ty,pos,af,some (j,b)⟩ U E H:=⟨⟨undef,fun _ e=>by cases e;exact hd,QV.no rfl hj ht hv,h⟩⟩
theorem QV.congr {E1:Env} {o:Oper} {v:Value} (he:∀ t,Env.at E t=Env.at E1 t) (h:QV P W n ops E1 H o v):QV P W n ops E H o v:=by
 have k:∀ a,Hd n E a→Hd n E1 a:=fun a p=>⟨p.size,fun t u q=>p.at_ t u (by rw [he];exact q)⟩
 exact ⟨h.go.imp (fun ⟨a,b⟩=>⟨fun x p=>a x (k x p),⟨fun M x w p s=>b.go M x w (k x p) s⟩⟩) (fun ⟨a,b⟩=>⟨fun x p=>a x (k x p),b⟩)⟩
theorem FJ_congr:∀ (p:Pl) {E E1:Env},(∀ t,Env.at E t=Env.at E1 t)→FJ P W n ops k p E1 H→FJ P W n ops k p E H
 |.nil,E,E1,he,h=>by
  have k:∀ a,Hd n E a→Hd n E1 a:=fun a p=>⟨p.size,fun t u q=>p.at_ t u (by rw [he];exact q)⟩
  exact KJ.mk fun a w p s=>KJ.go h a w (k a p) s
 |.op i p,E,E1,he,⟨o,v,ho,hd,hq,hF⟩=>⟨o,v,ho,hd,hq.congr he,FJ_congr p (fun t=>by
  cases hod:o.dst with
  |none=>exact he t
  |some d=>show Env.at ((d,v)::E) t=Env.at ((d,v)::E1) t;rw [Env.at_cons,Env.at_cons,he]) hF⟩
 |.ef i U p,E,E1,he,.inl ⟨o,ho,hw,hk⟩=>by
  have k:∀ a,Hd n E a→Hd n E1 a:=fun a p=>⟨p.size,fun t u q=>p.at_ t u (by rw [he];exact q)⟩
  exact .inl ⟨o,ho,fun a p=>hw a (k a p),⟨fun a w p s=>hk.go a w (k a p) s⟩⟩
 |.ef i U p,E,E1,he,.inr ⟨o,ho,hw,hd,hr,hF⟩=>by
  have k:∀ a,Hd n E a→Hd n E1 a:=fun a p=>⟨p.size,fun t u q=>p.at_ t u (by rw [he];exact q)⟩
  have he2:∀ t,Env.at (Env.put E o.dst undef) t=Env.at (Env.put E1 o.dst undef) t:=fun t=>by
   cases hod:o.dst with
   |none=>exact he t
   |some d=>show Env.at ((d,undef)::E) t=Env.at ((d,undef)::E1) t;rw [Env.at_cons,Env.at_cons,he]
  exact .inr ⟨o,ho,fun a p=>hw a (k a p),hd,Rech.of fun u hu=>by
   obtain ⟨o',h1,v,h2,h3⟩:=hr.get u hu
   exact ⟨o',h1,v,fun d hd=>by rw [he2];exact h2 d hd,h3.congr he2⟩,FJ_congr p he2 hF⟩
 |.alt x y,E,E1,he,h=>⟨FJ_congr x he h.1,FJ_congr y he h.2⟩
theorem FO_congr {o:Oper} {E1:Env} (he:∀ t,Env.at E t=Env.at E1 t) (h:FO P W n ops k o p E1 H):FO P W n ops k o p E H:=by
 obtain ⟨v,h1,h2,h3⟩:=h.go
 refine ⟨⟨v,h1,h2.congr he,FJ_congr p (fun t=>?_) h3⟩⟩
 cases hod:o.dst with
 |none=>exact he t
 |some d=>show Env.at ((d,v)::E) t=Env.at ((d,v)::E1) t;rw [Env.at_cons,Env.at_cons,he]
theorem FO_also {o:Oper} {t:Nat} {v:Value} (ht:Env.at E t=some v) (h:FO P W n ops k o p ((t,v)::E) H):FO P W n ops k o p E H:=FO_congr (fun u=>by
 rw [Env.at_cons]
 split
 ·rename_i e;subst e;exact ht
 ·rfl) h
theorem FO_split {t j:Nat} {b c:Bool} (hj:(ops[j]?).bind (·.dst)=some t) (ht:Env.at E t=some (.bool c)) (hy:c=b→FO P W n ops k ⟨dd,op,ty,pos,af,some (j,b)⟩ p ((t,.bool b)::E) H) (hn:c=!b→FO P W n ops k ⟨dd,op,ty,pos,af,some (j,b)⟩ p ((t,.bool !b)::E) H):FO P W n ops k ⟨dd,op,ty,pos,af,some (j,b)⟩ p E H:=by
 have _:=hj
 by_cases h:c=b
 ·subst h;exact FO_also ht (hy rfl)
 ·have h:c=!b:=by cases c <;> cases b <;> simp_all
  subst h;exact FO_also ht (hn rfl)
theorem FO_dec_t {t j:Nat} {pr:Prop} [Decidable pr] (hj:(ops[j]?).bind (·.dst)=some t) (ht:Env.at E t=some (.bool (decide pr))) (hy:pr→FO P W n ops k ⟨dd,op,ty,pos,af,some (j,true)⟩ p ((t,.bool true)::E) H) (hn:¬ pr→FO P W n ops k ⟨dd,op,ty,pos,af,some (j,true)⟩ p ((t,.bool false)::E) H):FO P W n ops k ⟨dd,op,ty,pos,af,some (j,true)⟩ p E H:=
 FO_split hj ht (fun e=>hy (by simpa using e)) (fun e=>hn (by simpa using e))
theorem FO_dec_f {t j:Nat} {pr:Prop} [Decidable pr] (hj:(ops[j]?).bind (·.dst)=some t) (ht:Env.at E t=some (.bool (decide pr))) (hy:¬ pr→FO P W n ops k ⟨dd,op,ty,pos,af,some (j,false)⟩ p ((t,.bool false)::E) H) (hn:pr→FO P W n ops k ⟨dd,op,ty,pos,af,some (j,false)⟩ p ((t,.bool true)::E) H):FO P W n ops k ⟨dd,op,ty,pos,af,some (j,false)⟩ p E H:=
 FO_split hj ht (fun e=>hy (by simpa using e)) (fun e=>hn (by simpa using e))
end
end Go.Proofs.YtgipenahkmbelaaGreatDoor
namespace Go.Proofs.YtgipenahkmbelaaGreatDoor
open Go Go.RowKit
section
variable {P:Program} {W:World} {n:Nat} {ops:Array Oper} {q:QQ} {E:Env} {H R:List SP} {l:List Oper} {k:KK} {d:Option Tmp} {v:Value}
theorem is_list (h:KJ W n (.list P ops q l) E H):KJ W n (.list P ops q l) E H:=h
theorem is_oper {op:Op} (h:KJ W n (.oper P op d k) E H):KJ W n (.oper P op d k) E H:=h
theorem is_code {c:Code} (h:KJ W n (.code P c q) E H):KJ W n (.code P c q) E H:=h
theorem is_ex {e:Exit} (h:KJ W n (.ex q e) E H):KJ W n (.ex q e) E H:=h
theorem is_fw {p:Pl} (h:FW P W n ops k p E H):FW P W n ops k p E H:=h
theorem is_fo {o:Oper} {p:Pl} (h:FO P W n ops k o p E H):FO P W n ops k o p E H:=h
theorem is_ro {o:Oper} {U:List Nat} (h:RO P W n ops o U E H):RO P W n ops o U E H:=h
structure EK (P:Program) (W:World) (n:Nat) (E:Env) (H:List SP) (op:Op) (C:Value→Prop):Prop where
 go:∃ v,Ev P W n E H op v∧C v
theorem zAb {op:Op} {C:Value→Prop} {v:Value} (he:Ev P W n E H op v) (h:C v):EK P W n E H op C:=⟨⟨v,he,h⟩⟩
theorem KJ_ek {op:Op} {d:Nat} (hn:Nat.blt d n=true) (h:EK P W n E H op fun v=>KJ W n k ((d,v)::E) H):KJ W n (.oper P op (some d) k) E H:=by
 obtain ⟨v,he,h⟩:=h.go
 exact KJ_ev he hn h
theorem KJ_ek0 {op:Op} (h:EK P W n E H op fun _=>KJ W n k E H):KJ W n (.oper P op none k) E H:=by
 obtain ⟨v,he,h⟩:=h.go
 exact KJ_ev0 he h
section
variable {op:Op} {d:Nat} {ty:TypeId} {pos:String} {af:Array Edge} {p:Pl} {U:List Nat} {j t:Nat} {b:Bool}
theorem FO_ek (hn:Nat.blt d n=true) (h:EK P W n E H op fun v=>FW P W n ops k p ((d,v)::E) H):FO P W n ops k ⟨some d,op,ty,pos,af,none⟩ p E H:=by
 obtain ⟨v,he,h⟩:=h.go
 exact FO_op he hn h
theorem FO_ekg (hj:(ops[j]?).bind (·.dst)=some t) (ht:Env.at E t=some (.bool b)) (hn:Nat.blt d n=true) (h:EK P W n E H op fun v=>FW P W n ops k p ((d,v)::E) H):FO P W n ops k ⟨some d,op,ty,pos,af,some (j,b)⟩ p E H:=by
 obtain ⟨v,he,h⟩:=h.go
 exact FO_yes hj ht he hn h
def AtR (P:Program) (W:World) (n:Nat) (ops:Array Oper) (E:Env) (H:List SP) (U:List Nat) (d:Nat) (v:Value):Prop:=Env.at E d=some v∧Rech P W n ops E H U
theorem AtR_mk {v:Value} (h1:Env.at E d=some v) (h2:Rech P W n ops E H U):AtR P W n ops E H U d v:=⟨h1,h2⟩
theorem RO_ek (h:EK P W n E H op (AtR P W n ops E H U d)):RO P W n ops ⟨some d,op,ty,pos,af,none⟩ U E H:=by
 obtain ⟨v,he,h⟩:=h.go
 exact RO_op h.1 he h.2
theorem RO_ekg (hj:(ops[j]?).bind (·.dst)=some t) (ht:Env.at E t=some (.bool b)) (h:EK P W n E H op (AtR P W n ops E H U d)):RO P W n ops ⟨some d,op,ty,pos,af,some (j,b)⟩ U E H:=by
 obtain ⟨v,he,h⟩:=h.go
 exact RO_yes h.1 hj ht he h.2
end
theorem is_ek {op:Op} {C:Value→Prop} (h:EK P W n E H op C):EK P W n E H op C:=h
theorem ek_move {x:Operand} {C:Value→Prop} (h:EK P W n E H (.move x) C):EK P W n E H (.move x) C:=h
theorem ek_assign {x:Operand} {C:Value→Prop} (h:EK P W n E H (.assign x) C):EK P W n E H (.assign x) C:=h
theorem ek_pick {c x y:Operand} {C:Value→Prop} (h:EK P W n E H (.pick c x y) C):EK P W n E H (.pick c x y) C:=h
theorem ek_nilCheck {x:Operand} {C:Value→Prop} (h:EK P W n E H (.nilCheck x) C):EK P W n E H (.nilCheck x) C:=h
theorem ek_fieldAddr {t:TypeId} {x:Operand} {f:Nat} {C:Value→Prop} (h:EK P W n E H (.fieldAddr t x f) C):EK P W n E H (.fieldAddr t x f) C:=h
theorem zAm {t:TypeId} {x:Operand} {C:Value→Prop} (h:EK P W n E H (.load t x) C):EK P W n E H (.load t x) C:=h
theorem ek_un {o:UnOp} {t:TypeId} {x:Operand} {C:Value→Prop} (h:EK P W n E H (.unOp o t x) C):EK P W n E H (.unOp o t x) C:=h
theorem zBu {s d:TypeId} {x:Operand} {C:Value→Prop} (h:EK P W n E H (.convert s d x) C):EK P W n E H (.convert s d x) C:=h
theorem ek_extract {x:Operand} {i:Nat} {C:Value→Prop} (h:EK P W n E H (.extract x i) C):EK P W n E H (.extract x i) C:=h
theorem ek_indexAddr {t:TypeId} {x y:Operand} {C:Value→Prop} (h:EK P W n E H (.indexAddr t x y) C):EK P W n E H (.indexAddr t x y) C:=h
theorem ek_index {t:TypeId} {x y:Operand} {C:Value→Prop} (h:EK P W n E H (.index t x y) C):EK P W n E H (.index t x y) C:=h
theorem zCg {t:TypeId} {x:Operand} {a b c:Option Operand} {C:Value→Prop} (h:EK P W n E H (.slice t x a b c) C):EK P W n E H (.slice t x a b c) C:=h
theorem ek_field {t:TypeId} {x:Operand} {f:Nat} {C:Value→Prop} (h:EK P W n E H (.field t x f) C):EK P W n E H (.field t x f) C:=h
theorem ek_mkIface {t:TypeId} {x:Operand} {C:Value→Prop} (h:EK P W n E H (.makeInterface t x) C):EK P W n E H (.makeInterface t x) C:=h
theorem ek_mkFunc {f:Fn} {a b:Array Operand} {C:Value→Prop} (h:EK P W n E H (.makeFunc f a b) C):EK P W n E H (.makeFunc f a b) C:=h
theorem zAy {t:TypeId} {ps:Array (Nat × Operand)} {C:Value→Prop} (h:EK P W n E H (.build t ps) C):EK P W n E H (.build t ps) C:=h
theorem ek_len {xs:Array Operand} {ts:Array TypeId} {C:Value→Prop} (h:EK P W n E H (.call { callee:=.builtin .len,args:=xs,argTypes:=ts }) C):EK P W n E H (.call { callee:=.builtin .len,args:=xs,argTypes:=ts }) C:=h
theorem ek_min {xs:Array Operand} {ts:Array TypeId} {C:Value→Prop} (h:EK P W n E H (.call { callee:=.builtin .min,args:=xs,argTypes:=ts }) C):EK P W n E H (.call { callee:=.builtin .min,args:=xs,argTypes:=ts }) C:=h
theorem ek_max {xs:Array Operand} {ts:Array TypeId} {C:Value→Prop} (h:EK P W n E H (.call { callee:=.builtin .max,args:=xs,argTypes:=ts }) C):EK P W n E H (.call { callee:=.builtin .max,args:=xs,argTypes:=ts }) C:=h
theorem zBh {t u:TypeId} {x y:Operand} {C:Value→Prop} (h:EK P W n E H (.binOp .add t x y u) C):EK P W n E H (.binOp .add t x y u) C:=h
theorem ek_sub {t u:TypeId} {x y:Operand} {C:Value→Prop} (h:EK P W n E H (.binOp .sub t x y u) C):EK P W n E H (.binOp .sub t x y u) C:=h
theorem ek_mul {t u:TypeId} {x y:Operand} {C:Value→Prop} (h:EK P W n E H (.binOp .mul t x y u) C):EK P W n E H (.binOp .mul t x y u) C:=h
theorem ek_quo {t u:TypeId} {x y:Operand} {C:Value→Prop} (h:EK P W n E H (.binOp .quo t x y u) C):EK P W n E H (.binOp .quo t x y u) C:=h
theorem ek_rem {t u:TypeId} {x y:Operand} {C:Value→Prop} (h:EK P W n E H (.binOp .rem t x y u) C):EK P W n E H (.binOp .rem t x y u) C:=h
theorem ek_and {t u:TypeId} {x y:Operand} {C:Value→Prop} (h:EK P W n E H (.binOp .and t x y u) C):EK P W n E H (.binOp .and t x y u) C:=h
theorem ek_or {t u:TypeId} {x y:Operand} {C:Value→Prop} (h:EK P W n E H (.binOp .or t x y u) C):EK P W n E H (.binOp .or t x y u) C:=h
theorem ek_xor {t u:TypeId} {x y:Operand} {C:Value→Prop} (h:EK P W n E H (.binOp .xor t x y u) C):EK P W n E H (.binOp .xor t x y u) C:=h
theorem ek_shl {t u:TypeId} {x y:Operand} {C:Value→Prop} (h:EK P W n E H (.binOp .shl t x y u) C):EK P W n E H (.binOp .shl t x y u) C:=h
theorem ek_shr {t u:TypeId} {x y:Operand} {C:Value→Prop} (h:EK P W n E H (.binOp .shr t x y u) C):EK P W n E H (.binOp .shr t x y u) C:=h
theorem zBg {t u:TypeId} {x y:Operand} {C:Value→Prop} (h:EK P W n E H (.binOp .eql t x y u) C):EK P W n E H (.binOp .eql t x y u) C:=h
theorem zBz {t u:TypeId} {x y:Operand} {C:Value→Prop} (h:EK P W n E H (.binOp .neq t x y u) C):EK P W n E H (.binOp .neq t x y u) C:=h
theorem zAq {t u:TypeId} {x y:Operand} {C:Value→Prop} (h:EK P W n E H (.binOp .lss t x y u) C):EK P W n E H (.binOp .lss t x y u) C:=h
theorem ek_leq {t u:TypeId} {x y:Operand} {C:Value→Prop} (h:EK P W n E H (.binOp .leq t x y u) C):EK P W n E H (.binOp .leq t x y u) C:=h
theorem zBf {t u:TypeId} {x y:Operand} {C:Value→Prop} (h:EK P W n E H (.binOp .gtr t x y u) C):EK P W n E H (.binOp .gtr t x y u) C:=h
theorem ek_geq {t u:TypeId} {x y:Operand} {C:Value→Prop} (h:EK P W n E H (.binOp .geq t x y u) C):EK P W n E H (.binOp .geq t x y u) C:=h
theorem is_store {t:TypeId} {x y:Operand} {dd:Option Tmp} (h:KJ W n (.oper P (.store t x y) dd k) E H):KJ W n (.oper P (.store t x y) dd k) E H:=h
theorem zBc {t:TypeId} {dd:Option Tmp} (h:KJ W n (.oper P (.alloc t) dd k) E H):KJ W n (.oper P (.alloc t) dd k) E H:=h
theorem zBe {t:TypeId} {x:Operand} {dd:Option Tmp} (h:KJ W n (.oper P (.box t x) dd k) E H):KJ W n (.oper P (.box t x) dd k) E H:=h
theorem zAd {f:FuncId} {xs:Array Operand} {ts:Array TypeId} {dd:Option Tmp} (h:KJ W n (.oper P (.call { callee:=.value (.func f),args:=xs,argTypes:=ts }) dd k) E H):KJ W n (.oper P (.call { callee:=.value (.func f),args:=xs,argTypes:=ts }) dd k) E H:=h
theorem zBq {xs:Array Operand} {ts:Array TypeId} {dd:Option Tmp} (h:KJ W n (.oper P (.call { callee:=.builtin .append,args:=xs,argTypes:=ts }) dd k) E H):KJ W n (.oper P (.call { callee:=.builtin .append,args:=xs,argTypes:=ts }) dd k) E H:=h
theorem is_copy {xs:Array Operand} {ts:Array TypeId} {dd:Option Tmp} (h:KJ W n (.oper P (.call { callee:=.builtin .copy,args:=xs,argTypes:=ts }) dd k) E H):KJ W n (.oper P (.call { callee:=.builtin .copy,args:=xs,argTypes:=ts }) dd k) E H:=h
theorem is_mkSlice {t:TypeId} {x y:Operand} {dd:Option Tmp} (h:KJ W n (.oper P (.makeSlice t x y) dd k) E H):KJ W n (.oper P (.makeSlice t x y) dd k) E H:=h
theorem is_mkMap {t:TypeId} {x:Option Operand} {dd:Option Tmp} (h:KJ W n (.oper P (.makeMap t x) dd k) E H):KJ W n (.oper P (.makeMap t x) dd k) E H:=h
theorem zBi {t:TypeId} {m:Nat} {ps:Array (Nat × Operand)} {dd:Option Tmp} (h:KJ W n (.oper P (.buildSlice t m ps) dd k) E H):KJ W n (.oper P (.buildSlice t m ps) dd k) E H:=h
theorem is_mapUpdate {t:TypeId} {x y z:Operand} {dd:Option Tmp} (h:KJ W n (.oper P (.mapUpdate t x y z) dd k) E H):KJ W n (.oper P (.mapUpdate t x y z) dd k) E H:=h
theorem is_econv {s d:TypeId} {x:Operand} {dd:Option Tmp} (h:KJ W n (.oper P (.convert s d x) dd k) E H):KJ W n (.oper P (.convert s d x) dd k) E H:=h
end
end Go.Proofs.YtgipenahkmbelaaGreatDoor
