/-
  Wk.
-/
import Derived.Test.YtmlnegmabfnaaaaBAL
/-
  The walk's steps, each a theorem whose proof is found by default (printed by genwk.py).
-/
namespace Go.Proofs.Ytmlnegmabfnaaaa
open Go Go.RowKit
/-- what is to be shown next: no rule finds it by itself -/
structure Later (A : Prop) : Prop where
  go : A
theorem xst {A G : Prop} (g : A) (h : Later A → G := by
  intro h
  first
  | (refine KJ_stp (by first | constructor | fail) ?_; exact h.go)
  | (refine is_ek ?_
     first
       | (refine ek_move ?_; first | refine EK_ev (Ev_move rfl) ?_)
       | (refine ek_assign ?_; first | refine EK_ev (Ev_assign rfl) ?_)
       | (refine ek_pick ?_; first | refine EK_ev (Ev_pick_t rfl rfl) ?_ | refine EK_ev (Ev_pick_f rfl rfl) ?_)
       | (refine ek_nilCheck ?_; first | refine EK_ev (Ev_nilCheck rfl) ?_)
       | (refine ek_fieldAddr ?_; first | refine EK_ev (Ev_field rfl) ?_)
       | (refine ek_load ?_; first | refine EK_ev (Ev_load rfl xS (by rfl)) ?_ | refine EK_ev (Ev_loadOld rfl (by assumption)) ?_ | refine EK_ev (Ev_loadAgg rfl xS xC) ?_)
       | (refine ek_un ?_; first | refine EK_ev (Ev_notD rfl) ?_ | refine EK_ev (Ev_not rfl) ?_ | refine EK_ev (Ev_neg rfl) ?_)
       | (refine ek_conv ?_; first | refine EK_ev (Ev_convI64 rfl (by omega)) ?_ | refine EK_ev (Ev_convI rfl) ?_ | refine EK_ev (Ev_convS rfl) ?_)
       | (refine ek_extract ?_; first | refine EK_ev (Ev_extract rfl rfl) ?_)
       | (refine ek_indexAddr ?_; first | refine EK_ev (Ev_indexSlice rfl rfl (by omega)) ?_ | refine EK_ev (Ev_indexArr rfl rfl (by omega)) ?_)
       | (refine ek_field ?_; first | refine EK_ev (Ev_fieldVal rfl rfl) ?_)
       | (refine ek_mkIface ?_; first | refine EK_ev (Ev_makeIface rfl rfl) ?_)
       | (refine ek_len ?_; first | refine EK_ev (Ev_len_str rfl) ?_ | refine EK_ev (Ev_len_slice rfl) ?_ | refine EK_ev (Ev_len_arr rfl) ?_ | refine EK_ev (Ev_len_map rfl xS) ?_)
       | (refine ek_min ?_; first | refine EK_ev (Ev_min rfl rfl) ?_)
       | (refine ek_max ?_; first | refine EK_ev (Ev_max rfl rfl) ?_)
       | (refine ek_add ?_; first | refine EK_ev (Ev_addI rfl rfl (by omega)) ?_ | refine EK_ev (Ev_addS rfl rfl (by simp <;> omega)) ?_ | refine EK_ev (Ev_add rfl rfl) ?_)
       | (refine ek_sub ?_; first | refine EK_ev (Ev_subI rfl rfl (by omega)) ?_ | refine EK_ev (Ev_sub rfl rfl) ?_)
       | (refine ek_mul ?_; first | refine EK_ev (Ev_mulI rfl rfl (by omega)) ?_ | refine EK_ev (Ev_mul rfl rfl) ?_)
       | (refine ek_quo ?_; first | refine EK_ev (Ev_quoI rfl rfl (by omega)) ?_ | refine EK_ev (Ev_quo rfl rfl (by omega)) ?_)
       | (refine ek_rem ?_; first | refine EK_ev (Ev_remI rfl rfl (by omega)) ?_ | refine EK_ev (Ev_rem rfl rfl (by omega)) ?_)
       | (refine ek_shl ?_; first | refine EK_ev (Ev_shl rfl rfl (by omega)) ?_)
       | (refine ek_shr ?_; first | refine EK_ev (Ev_shr rfl rfl (by omega)) ?_)
       | (refine ek_eql ?_; first | refine EK_ev (Ev_eqlI rfl rfl) ?_ | refine EK_ev (Ev_eqlS rfl rfl) ?_ | refine EK_ev (Ev_eqlNil rfl rfl) ?_ | refine EK_ev (Ev_eqlB rfl rfl) ?_ | refine EK_ev (Ev_eqlO rfl rfl rfl (fun _ => rfl)) ?_)
       | (refine ek_neq ?_; first | refine EK_ev (Ev_neqI rfl rfl) ?_ | refine EK_ev (Ev_neqS rfl rfl) ?_ | refine EK_ev (Ev_neqNil rfl rfl) ?_ | refine EK_ev (Ev_neqB rfl rfl) ?_ | refine EK_ev (Ev_neqO rfl rfl rfl (fun _ => rfl)) ?_)
       | (refine ek_lss ?_; first | refine EK_ev (Ev_lssI rfl rfl) ?_ | refine EK_ev (Ev_lssS rfl rfl) ?_)
       | (refine ek_leq ?_; first | refine EK_ev (Ev_leqI rfl rfl) ?_ | refine EK_ev (Ev_leqS rfl rfl) ?_)
       | (refine ek_gtr ?_; first | refine EK_ev (Ev_gtrI rfl rfl) ?_ | refine EK_ev (Ev_gtrS rfl rfl) ?_)
       | (refine ek_geq ?_; first | refine EK_ev (Ev_geqI rfl rfl) ?_ | refine EK_ev (Ev_geqS rfl rfl) ?_)
     exact h.go)
  | (refine is_ex ?_; refine KJ_blk_exit' rfl ?_; exact h.go)
  | (refine is_fw ?_; (first | refine FW_open rfl ?_ | refine FW_nil ?_ | refine FW_ef rfl ?_ | refine FW_efg rfl rfl rfl ?_); exact h.go)
  | (refine AtR_mk rfl ?_; exact h.go)
  | (refine Rech_open rfl ?_; exact h.go)) : G := h ⟨g⟩
theorem xsa {A G : Prop} (g : A) (h : Later A → G := by
  intro h
  refine is_oper ?_
  first | (refine is_alloc ?_; refine KJ_alloc rfl ?_) | (refine is_box ?_; refine KJ_box rfl xF rfl ?_)
  exact h.go) : G := h ⟨g⟩
theorem xsb {A B G : Prop} (a : A) (b : B) (h : Later A → Later B → G := by
  intro h1 h2
  first
  | (refine is_code ?_; refine KJ_cond_dec rfl ?_ ?_ <;> first | exact h1.go | exact h2.go)
  | (refine is_list ?_; first | (refine KJ_guard_dec_t rfl rfl rfl ?_ ?_ <;> first | exact h1.go | exact h2.go) | (refine KJ_guard_dec_f rfl rfl rfl ?_ ?_ <;> first | exact h1.go | exact h2.go))
  | (refine is_fo ?_; first | (refine FO_dec_t rfl rfl ?_ ?_ <;> first | exact h1.go | exact h2.go) | (refine FO_dec_f rfl rfl ?_ ?_ <;> first | exact h1.go | exact h2.go))) : G := h ⟨a⟩ ⟨b⟩
theorem xsc {A G : Prop} (g : A) (h : Later A → G := by
  intro h
  first
  | (refine is_oper ?_; (first | (refine is_store ?_; refine KJ_store rfl rfl xS xF (by rfl) xO xL xR ?_) | refine KJ_ek rfl ?_ | refine KJ_ek0 ?_); exact h.go)
  | (refine is_code ?_; (first | refine KJ_cond_t rfl ?_ | refine KJ_cond_f rfl ?_); exact h.go)
  | (refine is_list ?_; (first | refine KJ_guard_yes rfl rfl ?_ | refine KJ_guard_no rfl rfl rfl rfl ?_); exact h.go)
  | (refine is_fo ?_; (first | refine FO_no rfl rfl rfl rfl ?_ | refine FO_ekg rfl rfl rfl ?_ | refine FO_ek rfl ?_); exact h.go)
  | (refine is_ro ?_; (first | refine RO_no rfl rfl rfl rfl ?_ | refine RO_ekg rfl rfl ?_ | refine RO_ek ?_); exact h.go)) : G := h ⟨g⟩
end Go.Proofs.Ytmlnegmabfnaaaa
