/- Walks of functions of the given program: each returns what its Lean function says and leaves the memory that was there as it was. Conditions: those of each theorem. -/
import Derived.Test.YthbfgkeoojghoaaSm
import Derived.Test.YthbfgkeoojghoaaProg
import Derived.Test.YthbfgkeoojghoaaPl
import Derived.Test.YthbfgkeoojghoaaPo
import Derived.Test.YthbfgkeoojghoaaPd
import Derived.Test.YthbfgkeoojghoaaPe
import Derived.Test.YthbfgkeoojghoaaPh
import Derived.Test.YthbfgkeoojghoaaPm
import Derived.Test.YthbfgkeoojghoaaPc
import Derived.Test.YthbfgkeoojghoaaPs
import Derived.Test.YthbfgkeoojghoaaPt
import Derived.Test.YthbfgkeoojghoaaPu
import Derived.Test.YthbfgkeoojghoaaPv
import Derived.Test.YthbfgkeoojghoaaSo
import Derived.Test.YthbfgkeoojghoaaSh
import Derived.Test.YthbfgkeoojghoaaT
import Derived.Test.YthbfgkeoojghoaaW33
import Derived.Test.YthbfgkeoojghoaaW36
import Derived.KernelRfl
namespace Go.Proofs.Ythbfgkeoojghoaa.LFnExactAllGraphic
open Go.Sx Go.RowKit Go.Proofs.Ythbfgkeoojghoaa.T Go.Proofs.Ythbfgkeoojghoaa.W33 Go.Proofs.Ythbfgkeoojghoaa.W36
open Go.Plain
set_option linter.unusedVariables false
set_option maxRecDepth 100000 in
theorem FnExactAllGraphic_c (w : World) (n : Int)  : Calls Try.prog 7 #[.int .i64 (n)] w (Ret fun rv w' => rv = .bool true ∧ New w w' []) := by
  have hll := (allG_len n).1
  have hfr := (allG_len n).2
  have hmf := mark_facts (m := (allGV n)) (by omega) (fun q hq => by have := hfr q hq; omega)
  obtain ⟨hm1, hm2, hm3, hm4, hm5, hm6, hm7, hm8⟩ := hmf
  refine fn_enter (args := [.int .i64 (n)]) Try.func7 rfl Try.ntmps7 rfl (SS.start w) ?_
  refine cw_seq ?_
  refine cw_region ?_
  refine wl_v (ov_assign rfl) rfl rfl rfl ?_
  refine wl_nil ?_
  refine ce_then ?_
  refine cw_seq ?_
  refine cw_region ?_
  refine wl_v (ov_move rfl) rfl rfl rfl ?_
  refine wl_r (or_call (fv := []) (vs := [.int .i64 (n)]) (cs := []) en31 rfl rfl (call_x3 (fun w hw => AllGS_c w n ))) rfl rfl (kt3p rfl (fun A2_9 c2_9 hs2_9 h_9 => ?_))
  refine wl_v (ov_assign rfl) rfl rfl rfl ?_
  refine wl_nil ?_
  refine ce_then ?_
  refine cw_seq ?_
  refine cw_region ?_
  refine wl_v (ov_move rfl) rfl rfl rfl ?_
  refine wl_r (or_call (fv := []) (vs := [.int .i64 (n)]) (cs := []) en29 rfl rfl (call_x4 (fun w hw => AllGI_c w n ))) rfl rfl (kt4p rfl (fun A2_11 k2_11 c2_11 hs2_11 h_11 => ?_))
  refine wl_v (ov_assign rfl) rfl rfl rfl ?_
  refine wl_nil ?_
  refine ce_then ?_
  refine cw_seq ?_
  refine cw_seq ?_
  refine cw_region ?_
  refine wl_v (ov_move rfl) rfl rfl rfl ?_
  refine wl_v (ov_move rfl) rfl rfl rfl ?_
  refine ct_fact (nest_facts (List.Mem.tail _ (List.Mem.head _))) (fun hnfns_11_1 => ?_)
  have hnfns_11_1l := hnfns_11_1.1
  refine ct_fact (nest_facts (List.Mem.tail _ (List.Mem.tail _ (List.Mem.tail _ (List.Mem.head _))))) (fun hnfns_9_2 => ?_)
  have hnfns_9_2l := hnfns_9_2.1
  refine wl_r (or_call (fv := []) (vs := [.slice A2_11 ((allGV n).length) (k2_11), .slice A2_9 ((allGV n).length) (c2_9)]) (cs := []) en35 rfl rfl (call_v (fun w hw => eqIntSS_c w A2_11 ((allGV n).length) k2_11 hs2_11 (allGV n) A2_9 ((allGV n).length) c2_9 hs2_9 (allGV n) ((holds_row (List.Mem.head _)) w hw) rfl h_11 hnfns_11_1 ((mx_nest (List.Mem.tail _ (List.Mem.head _))) w hw) ((holds_row (List.Mem.tail _ (List.Mem.tail _ (List.Mem.head _)))) w hw) rfl h_9.1 hnfns_9_2 ((mx_nest (List.Mem.tail _ (List.Mem.tail _ (List.Mem.tail _ (List.Mem.head _))))) w hw) (by first | assumption | omega | (simp; omega))))) rfl rfl (kt_if rfl (fun c14 => ?_) (fun c14 => ?_))
  ·
    refine wl_v (ov_not rfl) rfl rfl rfl ?_
    refine wl_nil ?_
    refine ce_then ?_
    refine cw_false rfl ?_
    refine cw_skip ?_
    refine ce_then ?_
    refine cw_seq ?_
    refine cw_region ?_
    refine wl_v (ov_assign rfl) rfl rfl rfl ?_
    refine wl_nil ?_
    refine ce_then ?_
    refine cw_seq ?_
    refine cw_region ?_
    refine wl_v (ov_move rfl) rfl rfl rfl ?_
    refine wl_v (ov_move rfl) rfl rfl rfl ?_
    refine wl_r (or_call (fv := []) (vs := [.slice A2_11 ((allGV n).length) (k2_11), .int .i64 (1)]) (cs := []) en36 rfl rfl (call_o (.cons (.head) (.cons (.head) (.cons (.head) (.cons (.head) (.nil))))) (fun w hw => markIntSS_c w _ _ _ 1 A2_11 ((allGV n).length) k2_11 c2_11 hs2_11 (allGV n) (by first | assumption | omega | (simp; omega)) (by first | assumption | omega | (simp; omega)) (by first | assumption | omega | (simp; omega)) (by first | assumption | omega | (simp; omega)) hw))) rfl rfl (kt0 rfl ?_)
    refine wl_v (ov_assign rfl) rfl rfl rfl ?_
    refine wl_nil ?_
    refine ce_then ?_
    refine cw_seq ?_
    refine cw_region ?_
    refine wl_v (ov_assign rfl) rfl rfl rfl ?_
    refine wl_nil ?_
    refine ce_then ?_
    refine cw_seq ?_
    refine cw_region ?_
    refine wl_v (ov_move rfl) rfl rfl rfl ?_
    refine wl_v (ov_move rfl) rfl rfl rfl ?_
    refine ct_fact (nest_facts (List.Mem.tail _ (List.Mem.head _))) (fun hnfns_11_3 => ?_)
    have hnfns_11_3l := hnfns_11_3.1
    refine wl_r (or_call (fv := []) (vs := [.slice A2_11 ((allGV n).length) (k2_11), .int .i64 (1)]) (cs := []) en37 rfl rfl (call_v (fun w hw => heldIntSS_c w A2_11 ((allGV n).length) k2_11 hs2_11 (mkTo 1 (allGV n) ((allGV n).length)) 1 ((holds_row (List.Mem.head _)) w hw) hm3 h_11 hnfns_11_3 ((mx_nest (List.Mem.tail _ (List.Mem.head _))) w hw) hm5 (by first | assumption | omega | (simp; omega)) (by first | assumption | omega | (simp; omega))))) rfl rfl (kt0 rfl ?_)
    refine wl_v (ov_assign rfl) rfl rfl rfl ?_
    refine wl_nil ?_
    refine ce_then ?_
    refine cw_seq ?_
    refine cw_seq ?_
    refine cw_region ?_
    refine wl_v (ov_move rfl) rfl rfl rfl ?_
    refine wl_if (ov_lss rfl rfl) rfl rfl rfl (fun c23 => ?_) (fun c23 => ?_)
    ·
      first | (exfalso; omega) | exact absurd rfl c23 | exact absurd (by simp) c23 | (exfalso; simp at c23; omega) | exact absurd ⟨rfl, rfl⟩ c23 | (simp at c23)
    ·
      refine wl_nil ?_
      refine ce_then ?_
      refine cw_false rfl ?_
      refine cw_skip ?_
      refine ce_then ?_
      refine cw_seq ?_
      refine cw_seq ?_
      refine cw_region ?_
      refine wl_v (ov_move rfl) rfl rfl rfl ?_
      refine wl_v (ov_move rfl) rfl rfl rfl ?_
      refine wl_if (ov_neq rfl rfl) rfl rfl rfl (fun c26 => ?_) (fun c26 => ?_)
      ·
        first | (exfalso; omega) | exact absurd rfl c26 | exact absurd (by simp) c26 | (exfalso; simp at c26; omega) | exact absurd ⟨rfl, rfl⟩ c26 | (simp at c26)
      ·
        refine wl_nil ?_
        refine ce_then ?_
        refine cw_false rfl ?_
        refine cw_skip ?_
        refine ce_then ?_
        refine cw_seq ?_
        refine cw_region ?_
        refine wl_v (ov_move rfl) rfl rfl rfl ?_
        refine wl_r (or_call (fv := []) (vs := [.int .i64 (n)]) (cs := []) en29 rfl rfl (call_x4 (fun w hw => AllGI_c w n ))) rfl rfl (kt4p rfl (fun A2_28 k2_28 c2_28 hs2_28 h_28 => ?_))
        refine wl_v (ov_assign rfl) rfl rfl rfl ?_
        refine wl_nil ?_
        refine ce_then ?_
        refine cw_seq ?_
        refine cw_seq ?_
        refine cw_region ?_
        refine wl_v (ov_move rfl) rfl rfl rfl ?_
        refine wl_v (ov_move rfl) rfl rfl rfl ?_
        refine ct_fact (nest_facts (List.Mem.tail _ (List.Mem.head _))) (fun hnfns_28_4 => ?_)
        have hnfns_28_4l := hnfns_28_4.1
        refine ct_fact (nest_facts (List.Mem.tail _ (List.Mem.tail _ (List.Mem.tail _ (List.Mem.tail _ (List.Mem.tail _ (List.Mem.head _))))))) (fun hnfns_9_5 => ?_)
        have hnfns_9_5l := hnfns_9_5.1
        refine wl_r (or_call (fv := []) (vs := [.slice A2_28 ((allGV n).length) (k2_28), .slice A2_9 ((allGV n).length) (c2_9)]) (cs := []) en35 rfl rfl (call_v (fun w hw => eqIntSS_c w A2_28 ((allGV n).length) k2_28 hs2_28 (allGV n) A2_9 ((allGV n).length) c2_9 hs2_9 (allGV n) ((holds_row (List.Mem.head _)) w hw) rfl h_28 hnfns_28_4 ((mx_nest (List.Mem.tail _ (List.Mem.head _))) w hw) ((holds_row (List.Mem.tail _ (List.Mem.tail _ (List.Mem.tail _ (List.Mem.tail _ (List.Mem.head _)))))) w hw) rfl h_9.1 hnfns_9_5 ((mx_nest (List.Mem.tail _ (List.Mem.tail _ (List.Mem.tail _ (List.Mem.tail _ (List.Mem.tail _ (List.Mem.head _))))))) w hw) (by first | assumption | omega | (simp; omega))))) rfl rfl (kt_if rfl (fun c31 => ?_) (fun c31 => ?_))
        ·
          refine wl_v (ov_not rfl) rfl rfl rfl ?_
          refine wl_nil ?_
          refine ce_then ?_
          refine cw_false rfl ?_
          refine cw_skip ?_
          refine ce_then ?_
          refine cw_seq ?_
          refine cw_region ?_
          refine wl_v (ov_assign rfl) rfl rfl rfl ?_
          refine wl_nil ?_
          refine ce_then ?_
          refine cw_seq ?_
          refine cw_region ?_
          refine wl_v (ov_move rfl) rfl rfl rfl ?_
          refine wl_v (ov_move rfl) rfl rfl rfl ?_
          refine ct_fact (nest_facts (List.Mem.tail _ (List.Mem.tail _ (List.Mem.tail _ (List.Mem.head _))))) (fun hnfns_11_6 => ?_)
          have hnfns_11_6l := hnfns_11_6.1
          refine wl_r (or_call (fv := []) (vs := [.slice A2_11 ((allGV n).length) (k2_11), .int .i64 (1)]) (cs := []) en37 rfl rfl (call_v (fun w hw => heldIntSS_c w A2_11 ((allGV n).length) k2_11 hs2_11 (mkTo 1 (allGV n) ((allGV n).length)) 1 ((holds_row (List.Mem.tail _ (List.Mem.tail _ (List.Mem.head _)))) w hw) hm3 h_11 hnfns_11_6 ((mx_nest (List.Mem.tail _ (List.Mem.tail _ (List.Mem.tail _ (List.Mem.head _))))) w hw) hm5 (by first | assumption | omega | (simp; omega)) (by first | assumption | omega | (simp; omega))))) rfl rfl (kt0 rfl ?_)
          refine wl_v (ov_assign rfl) rfl rfl rfl ?_
          refine wl_nil ?_
          refine ce_then ?_
          refine cw_seq ?_
          refine cw_seq ?_
          refine cw_region ?_
          refine wl_v (ov_move rfl) rfl rfl rfl ?_
          refine wl_if (ov_lss rfl rfl) rfl rfl rfl (fun c37 => ?_) (fun c37 => ?_)
          ·
            first | (exfalso; omega) | exact absurd rfl c37 | exact absurd (by simp) c37 | (exfalso; simp at c37; omega) | exact absurd ⟨rfl, rfl⟩ c37 | (simp at c37)
          ·
            refine wl_nil ?_
            refine ce_then ?_
            refine cw_false rfl ?_
            refine cw_skip ?_
            refine ce_then ?_
            refine cw_seq ?_
            refine cw_seq ?_
            refine cw_region ?_
            refine wl_v (ov_move rfl) rfl rfl rfl ?_
            refine wl_v (ov_move rfl) rfl rfl rfl ?_
            refine wl_if (ov_neq rfl rfl) rfl rfl rfl (fun c40 => ?_) (fun c40 => ?_)
            ·
              first | (exfalso; omega) | exact absurd rfl c40 | exact absurd (by simp) c40 | (exfalso; simp at c40; omega) | exact absurd ⟨rfl, rfl⟩ c40 | (simp at c40)
            ·
              refine wl_nil ?_
              refine ce_then ?_
              refine cw_false rfl ?_
              refine cw_skip ?_
              refine ce_then ?_
              refine cw_seq ?_
              refine cw_region ?_
              refine wl_v (ov_assign rfl) rfl rfl rfl ?_
              refine wl_nil ?_
              refine ce_then ?_
              refine cw_ret ?_
              refine ce_results (v := .bool true) (res1 rfl (rv_t rfl)) (fun w' hw => ?_)
              exact ⟨rfl, (Keep.nil.ss hw).to_new⟩
        ·
          first | (exfalso; omega) | exact absurd rfl c31 | exact absurd (by simp) c31 | (exfalso; simp at c31; omega) | exact absurd ⟨rfl, rfl⟩ c31 | (simp at c31)
  ·
    first | (exfalso; omega) | exact absurd rfl c14 | exact absurd (by simp) c14 | (exfalso; simp at c14; omega) | exact absurd ⟨rfl, rfl⟩ c14 | (simp at c14)
end Go.Proofs.Ythbfgkeoojghoaa.LFnExactAllGraphic
