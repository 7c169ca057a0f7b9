/-
  PoP, PoD0, ChP, ChQ, ChLP.
-/
import Derived.Test.YtnbgcimalpdfoaaGreatDoorVEO
set_option maxHeartbeats 64000000
namespace Go.Proofs.YtnbgcimalpdfoaaGreatDoor
open Go Go.RowKit
def capB (b:UInt8):Bool:=decide (65≤b.toNat) && decide (b.toNat≤90)
def digB (b:UInt8):Bool:=decide (48≤b.toNat) && decide (b.toNat≤57)
def restG:List UInt8→Nat→Option Nat
 |[],r=>some r
 |b::l,r=>if digB b=true then restG l ((10*r+(b.toNat-48)) % 97) else if capB b=true then restG l ((100*r+(b.toNat-65)+10) % 97) else none
theorem restG_lt:∀ (l:List UInt8) {r x:Nat},r<97→restG l r=some x→x<97
 |[],r,x,h,e=>by cases e;exact h
 |b::l,r,x,h,e=>by
  unfold restG at e
  split at e
  ·exact restG_lt l (Nat.mod_lt _ (by omega)) e
  split at e
  ·exact restG_lt l (Nat.mod_lt _ (by omega)) e
  ·cases e
theorem restG_all:∀ (l:List UInt8) (r:Nat),(restG l r).isSome=l.all fun b=>digB b || capB b
 |[],_=>rfl
 |b::l,r=>by
  unfold restG
  cases h1:digB b with
  |true=>rw [if_pos rfl,restG_all];simp [h1]
  |false=>
   rw [if_neg (by decide)]
   cases h2:capB b with
   |true=>rw [if_pos rfl,restG_all];simp [h1,h2]
   |false=>rw [if_neg (by decide)];simp [h1,h2]
def dig2 (r:Nat):List UInt8:=[UInt8.ofNat (48+(98-r) / 10),UInt8.ofNat (48+(98-r) % 10)]
def digits2 (s:List UInt8):Option (List UInt8):=if s=[] then none else (restG (s++[48,48]) 0).map dig2
def formA (s:List UInt8):Bool:=decide (5≤s.length) && decide (s.length≤34) && (s.take 2).all capB && ((s.drop 2).take 2).all digB && (s.drop 4).all fun b=>capB b || digB b
def accE (s:List UInt8):Nat:=if formA s=false then 7 else if digits2 (s.drop 4++s.take 2)=some ((s.drop 2).take 2) then 0 else 8
def codeB (s:List UInt8):Bool:=decide (s.length=3) && s.all capB
def kinds4:List (List UInt8):=[[111,117,116,115,105,100,101,46],[115,117,115,112,101,110,115,101,46],[99,108,101,97,114,105,110,103,46],[102,101,101,115,46]]
end Go.Proofs.YtnbgcimalpdfoaaGreatDoor
namespace Go.Proofs.YtnbgcimalpdfoaaGreatDoor
open Go Go.RowKit
theorem codeB_len {s:List UInt8} (h:codeB s=true):s.length=3:=by
 unfold codeB at h
 simp only [Bool.and_eq_true,decide_eq_true_eq] at h
 exact h.1
theorem restG_some {l:List UInt8} (h:(l.all fun b=>digB b || capB b)=true) (r:Nat):∃ x,restG l r=some x:=by
 have:=restG_all l r
 rw [h] at this
 exact Option.isSome_iff_exists.1 this
theorem digits2_some {l:List UInt8} (h:(l.all fun b=>digB b || capB b)=true) (hne:l≠[]):∃ x,restG (l++[48,48]) 0=some x∧digits2 l=some (dig2 x):=by
 obtain ⟨x,hx⟩:=restG_some (l:=l++[48,48]) (by rw [List.all_append,h];rfl) 0
 refine ⟨x,hx,?_⟩
 unfold digits2
 rw [if_neg hne,hx]
 rfl
theorem all_swap (l:List UInt8):(l.all fun b=>capB b || digB b)=l.all fun b=>digB b || capB b:=by
 congr 1
 funext b
 rw [Bool.or_comm]
theorem all_cap {l:List UInt8} (h:l.all capB=true):(l.all fun b=>digB b || capB b)=true:=by
 rw [List.all_eq_true] at *
 intro b hb
 rw [h b hb,Bool.or_true]
theorem form_digits {s:List UInt8} (h:formA s=true):(((s.drop 4)++s.take 2).all fun b=>digB b || capB b)=true∧s.drop 4++s.take 2≠[]:=by
 unfold formA at h
 simp only [Bool.and_eq_true,decide_eq_true_eq] at h
 obtain ⟨⟨⟨⟨h1,h2⟩,h3⟩,h4⟩,h5⟩:=h
 refine ⟨?_,fun q=>?_⟩
 ·rw [List.all_append,all_cap h3,Bool.and_true,← all_swap]
  exact h5
 ·have:=congrArg List.length q
  rw [List.length_append,List.length_drop] at this
  simp only [List.length_nil] at this
  omega
end Go.Proofs.YtnbgcimalpdfoaaGreatDoor
namespace Go.Proofs.YtnbgcimalpdfoaaGreatDoor
open Go Go.RowKit
structure Acct where
 id:List UInt8
 cur:List UInt8
 kind:Int
 frozen:Bool
 bal:Int
 held:Int
 deriving DecidableEq
def uT (x:Int):Nat:=(x % 18446744073709551616).toNat
def iT (u:Nat):Int:=if u<9223372036854775808 then (u:Int) else (u:Int)-18446744073709551616
theorem uT_lt (x:Int):uT x<18446744073709551616:=by unfold uT;omega
theorem iT_uT {x:Int} (h:-9223372036854775808≤x∧x≤9223372036854775807):iT (uT x)=x:=by
 unfold iT uT
 split <;> omega
theorem iT_in {u:Nat} (h:u<18446744073709551616):-9223372036854775808≤iT u∧iT u≤9223372036854775807:=by
 unfold iT
 split <;> omega
theorem u64_uT (x:Int):IntKind.u64.wrap x=((uT x:Nat):Int):=by
 simp only [IntKind.wrap,IntKind.signed,IntKind.bits]
 unfold uT
 simp
 omega
theorem i64_iT {u:Nat} (h:u<18446744073709551616):IntKind.i64.wrap ((u:Nat):Int)=iT u:=by
 simp only [IntKind.wrap,IntKind.signed,IntKind.bits]
 unfold iT
 simp
 split <;> split <;> omega
def custB (a:Acct):Bool:=decide (accE a.id=0) && decide (0≤a.bal) && decide (0≤a.held) && decide (a.bal≤1000000000000000) && decide (a.held≤1000000000000000-a.bal)
def systB (a:Acct):Bool:=decide (2≤a.kind) && decide (a.kind≤5) && decide (a.id=kinds4.getD (a.kind-2).toNat []++a.cur) && !a.frozen && decide (a.held=0) && decide (-4611686018427387904≤a.bal) && decide (a.bal≤4611686018427387904)
def goodA (a:Acct):Bool:=codeB a.cur && if a.kind=1 then custB a else systB a
theorem custB_iff (a:Acct):custB a=true↔accE a.id=0∧0≤a.bal∧0≤a.held∧a.bal≤1000000000000000∧a.held≤1000000000000000-a.bal:=by
 unfold custB
 simp [and_assoc]
theorem systB_iff (a:Acct):systB a=true↔2≤a.kind∧a.kind≤5∧a.id=kinds4.getD (a.kind-2).toNat []++a.cur∧a.frozen=false∧a.held=0∧-4611686018427387904≤a.bal∧a.bal≤4611686018427387904:=by
 unfold systB
 simp [and_assoc]
theorem goodA_cust {a:Acct} (h:a.kind=1):goodA a=(codeB a.cur && custB a):=by unfold goodA;rw [if_pos h]
theorem goodA_syst {a:Acct} (h:a.kind≠1):goodA a=(codeB a.cur && systB a):=by unfold goodA;rw [if_neg h]
theorem goodA_in {a:Acct} (h:goodA a=true):a.cur.length=3∧1≤a.kind∧a.kind≤5∧-9223372036854775808≤a.bal∧a.bal≤9223372036854775807∧-9223372036854775808≤a.held∧a.held≤9223372036854775807:=by
 by_cases hk:a.kind=1
 ·rw [goodA_cust hk,Bool.and_eq_true] at h
  obtain ⟨h1,h2⟩:=h
  obtain ⟨-,h3,h4,h5,h6⟩:=(custB_iff a).1 h2
  exact ⟨codeB_len h1,by omega,by omega,by omega,by omega,by omega,by omega⟩
 ·rw [goodA_syst hk,Bool.and_eq_true] at h
  obtain ⟨h1,h2⟩:=h
  obtain ⟨h3,h4,-,-,h5,h6,h7⟩:=(systB_iff a).1 h2
  exact ⟨codeB_len h1,by omega,by omega,by omega,by omega,by omega,by omega⟩
def aKey (id:List UInt8):List UInt8:=keyT [97]++keyT id
theorem aKey_inj {a b:List UInt8} (h:aKey a=aKey b):a=b:=by
 have h1:=keyT_inj h
 have h2:keyT a++[]=keyT b++[]:=by rw [h1.2]
 exact (keyT_inj h2).1
def rowA (a:Acct):List UInt8:=UInt8.ofNat a.kind.toNat::(bif a.frozen then 1 else 0)::(tx a.cur++loB 8 (uT a.bal)++loB 8 (uT a.held))
theorem rowA_cut {a:Acct} (h:a.cur.length=3):rowA a=UInt8.ofNat a.kind.toNat::(bif a.frozen then 1 else 0)::3::(a.cur++(loB 8 (uT a.bal)++loB 8 (uT a.held))):=by
 have e:vu 3=[3]:=by decide
 unfold rowA tx
 rw [h,e]
 simp
theorem rowA_len {a:Acct} (h:a.cur.length=3):(rowA a).length=22:=by
 rw [rowA_cut h]
 simp only [List.length_cons,List.length_append,loB_len,h]
abbrev RdA:Type:=UInt8 × UInt8 × List UInt8 × Nat × Nat
def readA:List UInt8→Option RdA
 |k::f::t=>match rtx 255 t with
  |.bad _=>none
  |.ok c u=>if u.length<16 then none else some (k,f,c,valB (u.take 8),valB ((u.drop 8).take 8))
 |_=>none
def acctOf (id:List UInt8) (x:RdA):Acct:=⟨id,x.2.2.1,((x.1.toNat:Nat):Int),decide (x.2.1.toNat=1),iT x.2.2.2.1,iT x.2.2.2.2⟩
def decA (id s:List UInt8):Option Acct:=if s.length≠22 then none else
 bif goodA (acctOf id (s.getD 0 0,s.getD 1 0,(s.drop 3).take 3,valB ((s.drop 6).take 8),valB (s.drop 14))) && decide (rowA (acctOf id (s.getD 0 0,s.getD 1 0,(s.drop 3).take 3,valB ((s.drop 6).take 8),valB (s.drop 14)))=s)
 then some (acctOf id (s.getD 0 0,s.getD 1 0,(s.drop 3).take 3,valB ((s.drop 6).take 8),valB (s.drop 14))) else none
theorem flag_back (b:Bool):decide ((bif b then (1:UInt8) else 0).toNat=1)=b:=by cases b <;> rfl
theorem kind_back {k:Int} (h:1≤k) (h2:k≤5):(((UInt8.ofNat k.toNat).toNat:Nat):Int)=k:=by
 rw [UInt8.toNat_ofNat']
 omega
theorem acctOf_row {a:Acct} (h:goodA a=true):acctOf a.id (UInt8.ofNat a.kind.toNat,(bif a.frozen then 1 else 0),a.cur,uT a.bal,uT a.held)=a:=by
 obtain ⟨h1,h2,h3,h4,h5,h6,h7⟩:=goodA_in h
 unfold acctOf
 dsimp only
 rw [flag_back,kind_back h2 h3,iT_uT ⟨h4,h5⟩,iT_uT ⟨h6,h7⟩]
theorem val8 (x:Int):valB (loB 8 (uT x))=uT x:=valB_low 8 _ (by have:=uT_lt x;omega)
theorem dec_of_row {a:Acct} (h:goodA a=true):decA a.id (rowA a)=some a:=by
 obtain ⟨h1,-⟩:=goodA_in h
 have hc:=rowA_cut h1
 have e3:((rowA a).drop 3).take 3=a.cur:=by
  rw [hc]
  show (a.cur++_).take 3=_
  rw [← h1,List.take_left' rfl]
 have e6:((rowA a).drop 6).take 8=loB 8 (uT a.bal):=by
  rw [hc]
  show ((a.cur++_).drop 3).take 8=_
  rw [← h1,List.drop_left' rfl]
  exact List.take_left' (loB_len 8 _)
 have e14:(rowA a).drop 14=loB 8 (uT a.held):=by
  rw [hc]
  show (a.cur++(loB 8 (uT a.bal)++loB 8 (uT a.held))).drop 11=_
  rw [← List.append_assoc]
  exact List.drop_left' (by rw [List.length_append,loB_len,h1])
 have e0:(rowA a).getD 0 0=UInt8.ofNat a.kind.toNat:=rfl
 have e1:(rowA a).getD 1 0=(bif a.frozen then 1 else 0):=rfl
 unfold decA
 rw [if_neg (by rw [rowA_len h1];decide),e0,e1,e3,e6,e14,val8,val8,acctOf_row h,h,decide_eq_true rfl]
 rfl
theorem dec_some {id s:List UInt8} {a:Acct} (h:decA id s=some a):a.id=id∧goodA a=true∧rowA a=s:=by
 unfold decA at h
 split at h
 ·cases h
 cases hb:goodA (acctOf id (s.getD 0 0,s.getD 1 0,(s.drop 3).take 3,valB ((s.drop 6).take 8),valB (s.drop 14))) && decide (rowA (acctOf id (s.getD 0 0,s.getD 1 0,(s.drop 3).take 3,valB ((s.drop 6).take 8),valB (s.drop 14)))=s) with
 |false=>rw [hb] at h;cases h
 |true=>
  rw [hb] at h
  have h:some _=some a:=h
  rw [Bool.and_eq_true] at hb
  cases h
  exact ⟨rfl,hb.1,of_decide_eq_true hb.2⟩
theorem dec_iff {id s:List UInt8} {a:Acct}:decA id s=some a↔a.id=id∧goodA a=true∧rowA a=s:=
 ⟨dec_some,fun ⟨h1,h2,h3⟩=>by rw [← h1,← h3];exact dec_of_row h2⟩
theorem read_of_row {a:Acct} (h:goodA a=true):readA (rowA a)=some (UInt8.ofNat a.kind.toNat,(bif a.frozen then 1 else 0),a.cur,uT a.bal,uT a.held):=by
 obtain ⟨h1,-⟩:=goodA_in h
 have e:rtx 255 (tx a.cur++loB 8 (uT a.bal)++loB 8 (uT a.held))=.ok a.cur (loB 8 (uT a.bal)++loB 8 (uT a.held)):=by
  rw [List.append_assoc]
  exact rtx_tx 255 _ _ (by omega) (by rw [h1];decide)
 have l1:=loB_len 8 (uT a.bal)
 have l2:=loB_len 8 (uT a.held)
 unfold rowA readA
 dsimp only
 rw [e]
 dsimp only
 rw [if_neg (by rw [List.length_append];omega),List.take_left' l1,List.drop_left' l1,List.take_of_length_le (by omega),val8,val8]
theorem dec_no {id s:List UInt8} (h:readA s=none):decA id s=none:=by
 cases hd:decA id s with
 |none=>rfl
 |some a=>
  obtain ⟨-,h2,h3⟩:=dec_some hd
  rw [← h3,read_of_row h2] at h
  cases h
theorem dec_read {id s:List UInt8} {x:RdA} (h:readA s=some x):decA id s=bif goodA (acctOf id x) && decide (rowA (acctOf id x)=s) then some (acctOf id x) else none:=by
 cases hb:goodA (acctOf id x) && decide (rowA (acctOf id x)=s) with
 |true=>
  rw [Bool.and_eq_true] at hb
  exact dec_iff.2 ⟨rfl,hb.1,of_decide_eq_true hb.2⟩
 |false=>
  cases hd:decA id s with
  |none=>rfl
  |some a=>
   obtain ⟨h1,h2,h3⟩:=dec_some hd
   rw [← h3,read_of_row h2] at h
   cases h
   rw [← h1,acctOf_row h2,h2,h3,decide_eq_true rfl] at hb
   cases hb
end Go.Proofs.YtnbgcimalpdfoaaGreatDoor
namespace Go.Proofs.YtnbgcimalpdfoaaGreatDoor
open Go Go.RowKit
abbrev ac0:Acct:=⟨[],[],0,false,0,0⟩
def getO (id:List UInt8) (o:Option (List UInt8)):Option Acct:=o.bind (decA id)
def getE (id:List UInt8) (o:Option (List UInt8)):Nat:=match o with
 |none=>20
 |some s=>bif (decA id s).isSome then 0 else 15
theorem getE_some {id:List UInt8} {o:Option (List UInt8)} {a:Acct} (h:getO id o=some a):getE id o=0:=by
 cases o with
 |none=>cases h
 |some s=>
  have h:decA id s=some a:=h
  show (bif (decA id s).isSome then 0 else 15)=0
  rw [h];rfl
abbrev newA (id c:List UInt8):Acct:=⟨id,c,1,false,0,0⟩
theorem newA_good {id c:List UInt8} (h1:accE id=0) (h2:codeB c=true):goodA (newA id c)=true:=by
 rw [goodA_cust rfl,(custB_iff _).2 ⟨h1,show (0:Int)≤0 by decide,show (0:Int)≤0 by decide,show (0:Int)≤1000000000000000 by decide,show (0:Int)≤1000000000000000-0 by decide⟩]
 show (codeB c && true)=true
 rw [h2];rfl
def openE (r:Rows) (id c:List UInt8):Nat:=if accE id≠0 then 20 else bif codeB c then (bif (lk r (aKey id)).isSome then 21 else 0) else 11
def openR (r:Rows) (id c:List UInt8):Rows:=if openE r id c=0 then putR r (aKey id) (rowA (newA id c)) else r
abbrev sysA (k:Nat) (c:List UInt8):Acct:=⟨kinds4.getD k []++c,c,((k+2:Nat):Int),false,0,0⟩
theorem sysA_good {k:Nat} {c:List UInt8} (hk:k<4) (h2:codeB c=true):goodA (sysA k c)=true:=by
 have e:(((k+2:Nat):Int)-2).toNat=k:=by omega
 rw [goodA_syst (show ((k+2:Nat):Int)≠1 by omega),(systB_iff _).2 ⟨show (2:Int)≤((k+2:Nat):Int) by omega,show ((k+2:Nat):Int)≤5 by omega,show kinds4.getD k []++c=kinds4.getD (((k+2:Nat):Int)-2).toNat []++c by rw [e],rfl,rfl,show (-4611686018427387904:Int)≤0 by decide,show (0:Int)≤4611686018427387904 by decide⟩]
 show (codeB c && true)=true
 rw [h2];rfl
abbrev sysK (k:Nat) (c:List UInt8):List UInt8:=aKey (kinds4.getD k []++c)
def foundE (r:Rows) (c:List UInt8):Nat:=bif codeB c then (bif (lk r (sysK 0 c)).isSome || (lk r (sysK 1 c)).isSome || (lk r (sysK 2 c)).isSome || (lk r (sysK 3 c)).isSome then 21 else 0) else 11
def foundTo (r:Rows) (c:List UInt8):Nat→Rows
 |0=>r
 |k+1=>putR (foundTo r c k) (sysK k c) (rowA (sysA k c))
def foundR (r:Rows) (c:List UInt8):Rows:=if foundE r c=0 then foundTo r c 4 else r
def setE (r:Rows) (a:Acct):Nat:=bif goodA a then (bif (lk r (aKey a.id)).isSome then 0 else 20) else 7
def setR (r:Rows) (a:Acct):Rows:=if setE r a=0 then putR r (aKey a.id) (rowA a) else r
def custO (r:Rows) (id:List UInt8):Option Acct:=(getO id (lk r (aKey id))).bind fun a=>if a.kind=1 then some a else none
def custE (r:Rows) (id:List UInt8):Nat:=match getO id (lk r (aKey id)) with
 |none=>getE id (lk r (aKey id))
 |some a=>if a.kind=1 then 0 else 20
def freezeR (r:Rows) (id:List UInt8) (on:Bool):Rows:=match custO r id with
 |none=>r
 |some a=>if a.frozen=on then r else putR r (aKey id) (rowA { a with frozen:=on })
def closeE (r:Rows) (id:List UInt8):Nat:=match custO r id with
 |none=>custE r id
 |some a=>if a.bal≠0∨a.held≠0 then 37 else 0
def closeR (r:Rows) (id:List UInt8):Rows:=if closeE r id=0 then mdel r (aKey id) else r
theorem custO_some {r:Rows} {id:List UInt8} {a:Acct} (h:custO r id=some a):custE r id=0∧getO id (lk r (aKey id))=some a∧a.kind=1∧a.id=id∧goodA a=true∧lk r (aKey id)=some (rowA a):=by
 unfold custO at h
 cases hg:getO id (lk r (aKey id)) with
 |none=>rw [hg] at h;cases h
 |some b=>
  rw [hg] at h
  have h:(if b.kind=1 then some b else none)=some a:=h
  split at h
  ·rename_i hk
   cases h
   have e:custE r id=0:=by unfold custE;rw [hg];exact if_pos hk
   cases hl:lk r (aKey id) with
   |none=>rw [hl] at hg;cases hg
   |some s=>
    rw [hl] at hg
    obtain ⟨d1,d2,d3⟩:=dec_some (show decA id s=some a from hg)
    exact ⟨e,rfl,hk,d1,d2,by rw [d3]⟩
  ·cases h
end Go.Proofs.YtnbgcimalpdfoaaGreatDoor
namespace Go.Proofs.YtnbgcimalpdfoaaGreatDoor
open Go Go.RowKit
theorem openQ_yes {r:Rows} {id c:List UInt8} (h1:accE id=0) (h2:codeB c=true) (h3:lk r (aKey id)=none):openE r id c=0∧openR r id c=putR r (aKey id) (rowA (newA id c)):=by
 have e:openE r id c=0:=by unfold openE;rw [if_neg (by omega),h2,h3];rfl
 exact ⟨e,if_pos e⟩
theorem setQ_yes {r:Rows} {a:Acct} {v:List UInt8} (hg:goodA a=true) (h:lk r (aKey a.id)=some v):setE r a=0∧setR r a=putR r (aKey a.id) (rowA a):=by
 have e:setE r a=0:=by unfold setE;rw [hg,h];rfl
 exact ⟨e,if_pos e⟩
end Go.Proofs.YtnbgcimalpdfoaaGreatDoor
