/-
  Mp2.
-/
import Derived.Test.YtdbfemdpdpaffaaGreatDoorPAL
/-
  Maps of one's own: an entry written where it stands; a map gone over.
-/
namespace Go.Proofs.YtdbfemdpdpaffaaGreatDoor
open Go Go.RowKit Go.MapKept
section
variable {P : Program} {W w : World} {n d : Nat} {E : Env} {H H' R : List SP} {k : KK} {t kt e : TypeId} {x y z : Operand}
variable {α β : Type} [DecidableEq α] {kf : α → Value} {vf : β → Value} {b r : Nat} {m left : List (α × β)}
theorem KJ_entryStore {a : α} {v : β} {st : Nat} (K : KyOk P kt kf) (hx : Env.ev E x = some (.map (some b))) (hy : Env.ev E y = some (.int .i64 st)) (hz : Env.ev E z = some (vf v)) (hs : Sel (mentP kf vf b m a st) H R)
    (h : KJ W n k E (mapP kf vf b (mput m a v) :: R)) : KJ W n (.oper P (.entryStore t x y z) none k) E H := by
  refine KJ_eff (X := Unit) (v := fun _ => undef) (H' := fun _ => mapP kf vf b (mput m a v) :: R) (fun o ho a' w M p s => ?_) rfl (fun _ => h)
  obtain ⟨hh, ⟨es, c, hb0, h1, h2, e0, he0, hk0, hb1⟩, ls⟩ := s.sel (hs.app M) mentP_up
  have hb := (ls _ _ hb0).2
  have hset : ∀ o, (setObj b o).run P w = .ok () (w.putObj b o) := fun o => Go.MapKept.run_setObj_map o hb
  obtain ⟨j, hjl, hj⟩ := List.getElem_of_mem he0
  have hj2 : es[j]? = some e0 := by rw [← Array.getElem?_toList, List.getElem?_eq_getElem hjl, hj]
  have hfi : es.findIdx? (fun e => (e.born : Int) == (st : Int)) = some j := by
    rw [Array.findIdx?_eq_some_iff_getElem]
    have hjs : j < es.size := by simpa using hjl
    refine ⟨hjs, ?_, fun i hi => ?_⟩
    · have : es[j] = e0 := by simpa using hj
      simp [this, hb1]
    · intro q
      have q2 : es[i].born = st := by
        have := (beq_iff_eq).1 q
        omega
      have hn := h1.2.1
      have hi2 : i < es.toList.length := by simp; omega
      have e1 : (es.toList.map (·.born))[i]'(by simpa using hi2) = (es.toList.map (·.born))[j]'(by simpa using hjl) := by
        simp only [List.getElem_map, Array.getElem_toList]
        rw [q2, ← hb1]
        rw [show es[j] = e0 by simpa using hj]
      have := (List.getElem_inj hn).1 e1
      omega
  obtain ⟨pr, hp, hpk, hpv⟩ := kvs_get h2 (show es.toList[j]? = some e0 by simpa using hj2)
  have hpa : pr.1 = a := K.inj _ _ (by rw [← hpk, hk0])
  have hpm : m[j]? = some (a, pr.2) := by rw [hp, ← hpa]
  have hlk : lk m a = some pr.2 := by rw [← hpa]; exact lk_of (kvs_nodup h1 h2) (List.mem_of_getElem? hp)
  refine ⟨(), w.putObj b (.map (es.modify j (fun e => { e with val := vf v })) c), .inr ⟨rfl, ?_⟩, St.putTurn (s.perm (hs.app M).perm) (fun h ⟨es, c, q, _⟩ => ⟨_, q⟩) ⟨_, c, Hl.one_self _ _, stamped_modify h1 _ _ (fun _ _ => rfl) (fun _ _ _ => rfl), ?_⟩⟩
  · simp [execOp, ho, p.ev hx, p.ev hy, p.ev hz, Instr.entryStore, Go.MapKept.run_getObj_map hb, asInt, asIntOf, hfi, hset, Result.andThen]
  · have e1 : (es.modify j (fun e' => { e' with val := vf v })).toList = es.toList.set j { e0 with val := vf v } := by
      apply List.ext_getElem?
      intro i
      rw [Array.getElem?_toList, Array.getElem?_modify, List.getElem?_set]
      by_cases hij : j = i
      · subst hij
        rw [if_pos rfl, if_pos rfl, if_pos (by simpa using hjl), hj2]; rfl
      · rw [if_neg hij, if_neg hij, Array.getElem?_toList]
    rw [e1]
    unfold mput
    rw [hlk]
    simp only [Option.isSome_some, if_true]
    rw [mapset_set m (kvs_nodup h1 h2) j a pr.2 v hpm]
    simp only [kvs, List.map_set, encs, hk0]
    rw [show es.toList.map (fun e => (e.key, e.val)) = m.map (fun p => (kf p.1, vf p.2)) from h2]
end
end Go.Proofs.YtdbfemdpdpaffaaGreatDoor
