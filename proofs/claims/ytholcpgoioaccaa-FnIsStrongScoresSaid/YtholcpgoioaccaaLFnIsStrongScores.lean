/- Walks of functions of the given program: each returns what its Lean function says and leaves the memory that was there as it was. Conditions: those of each theorem. -/
import Derived.Test.YtholcpgoioaccaaSm
import Derived.Test.YtholcpgoioaccaaProg
import Derived.Test.YtholcpgoioaccaaPl
import Derived.Test.YtholcpgoioaccaaPo
import Derived.Test.YtholcpgoioaccaaPd
import Derived.Test.YtholcpgoioaccaaPe
import Derived.Test.YtholcpgoioaccaaPh
import Derived.Test.YtholcpgoioaccaaPm
import Derived.Test.YtholcpgoioaccaaPc
import Derived.Test.YtholcpgoioaccaaPs
import Derived.Test.YtholcpgoioaccaaPt
import Derived.Test.YtholcpgoioaccaaPu
import Derived.Test.YtholcpgoioaccaaSo
import Derived.Test.YtholcpgoioaccaaSh
import Derived.Test.YtholcpgoioaccaaT
import Derived.Test.YtholcpgoioaccaaW6
import Derived.Test.YtholcpgoioaccaaW9
import Derived.Test.YtholcpgoioaccaaW10
import Derived.Test.YtholcpgoioaccaaW12
import Derived.Test.YtholcpgoioaccaaW31
import Derived.KernelRfl
namespace Go.Proofs.Ytholcpgoioaccaa.LFnIsStrongScores
open Go.Sx Go.RowKit Go.Proofs.Ytholcpgoioaccaa.T Go.Proofs.Ytholcpgoioaccaa.W6 Go.Proofs.Ytholcpgoioaccaa.W9 Go.Proofs.Ytholcpgoioaccaa.W10 Go.Proofs.Ytholcpgoioaccaa.W12 Go.Proofs.Ytholcpgoioaccaa.W31
open Go.Plain
set_option linter.unusedVariables false
set_option maxRecDepth 100000 in
theorem FnIsStrongScores_c (w : World) (Ar : Option Addr) (nr : Nat) (cr : Nat) (bs : List (Nat)) (hAr : At w Ar (cells fY bs)) (eAr : bs.length = nr) (lAr : nr ≤ cr) (hb : ∀ x ∈ bs, x < 256) : Calls Try.prog 5 #[.slice Ar (nr) (cr)] w (Ret fun rv w' => rv = .bool true ∧ New w w' []) := by
  have oAr := hAr.atB
  subst eAr
  refine fn_enter (args := [.slice Ar (bs.length) (cr)]) Try.func5 rfl Try.ntmps5 rfl (SS.start w) ?_
  refine cw_seq ?_
  refine cw_region ?_
  refine wl_v (ov_assign rfl) rfl rfl rfl ?_
  refine wl_nil ?_
  refine ce_then ?_
  refine cw_seq ?_
  refine cw_seq ?_
  refine cw_region ?_
  refine wl_v (ov_move rfl) rfl rfl rfl ?_
  refine wl_v (ov_len (sliceI_spec sI22) rfl) rfl rfl rfl ?_
  refine wl_if (ov_gtr rfl rfl) rfl rfl rfl (fun c7 => ?_) (fun c7 => ?_)
  ·
    refine wl_nil ?_
    refine ce_then ?_
    refine cw_true rfl ?_
    refine cw_seq ?_
    refine cw_region ?_
    refine wl_v (ov_assign rfl) rfl rfl rfl ?_
    refine wl_nil ?_
    refine ce_then ?_
    refine cw_ret ?_
    refine ce_then_ret ?_
    refine ce_results (v := .bool true) (res1 rfl (rv_t rfl)) (fun w' hw => ?_)
    exact ⟨rfl, (Keep.nil.ss hw).to_new⟩
  ·
    refine wl_nil ?_
    refine ce_then ?_
    refine cw_false rfl ?_
    refine cw_skip ?_
    refine ce_then ?_
    refine cw_seq ?_
    refine cw_region ?_
    refine wl_v (ov_move rfl) rfl rfl rfl ?_
    refine wl_r (or_call (fv := []) (vs := [.slice Ar (bs.length) (cr)]) (cs := []) en18 rfl rfl (call_x3 (fun w hw => DrawIsStrongScores_c w Ar bs.length cr bs ((holds_old oAr) w hw) rfl lAr (by first | assumption | omega | (simp; omega))))) rfl rfl (kt3p rfl (fun A2_9 c2_9 ys_9 h_9 => ?_))
    have hb9 := h_9.2.1
    have hcl := complV_len ys_9
    have hsl := sortedL_len ys_9
    refine wl_v (ov_assign rfl) rfl rfl rfl ?_
    refine wl_nil ?_
    refine ce_then ?_
    refine cw_seq ?_
    refine cw_region ?_
    refine wl_v (ov_move rfl) rfl rfl rfl ?_
    refine wl_r (or_call (fv := []) (vs := [.slice A2_9 (ys_9.length) (c2_9)]) (cs := []) en19 rfl rfl (call_v (fun w hw => StrongI_c w A2_9 ys_9.length c2_9 ys_9 ((holds_row (List.Mem.head _)) w hw) rfl h_9.1 (by first | assumption | omega | (simp; omega))))) rfl rfl (kt_if rfl (fun c11 => ?_) (fun c11 => ?_))
    ·
      refine wl_v (ov_assign rfl) rfl rfl rfl ?_
      refine wl_nil ?_
      refine ce_then ?_
      refine cw_seq ?_
      refine cw_seq ?_
      refine cw_region ?_
      refine wl_v (ov_move rfl) rfl rfl rfl ?_
      refine wl_v (ov_move rfl) rfl rfl rfl ?_
      refine wl_r (or_call (fv := []) (vs := [.slice A2_9 (ys_9.length) (c2_9)]) (cs := []) en20 rfl rfl (call_v (fun w hw => StrongS_c w A2_9 ys_9.length c2_9 ys_9 ((holds_row (List.Mem.head _)) w hw) rfl h_9.1 (by first | assumption | omega | (simp; omega))))) rfl rfl (kt_if rfl (fun c14 => ?_) (fun c14 => ?_))
      ·
        refine wl_v (ov_neqb uI4 rfl rfl) rfl rfl rfl ?_
        refine wl_v (ov_move rfl) rfl rfl rfl ?_
        refine wl_go rfl rfl ?_
        refine wl_v (ov_move rfl) rfl rfl rfl ?_
        refine wl_go rfl rfl ?_
        refine wl_r (or_call (fv := []) (vs := [.slice A2_9 (ys_9.length) (c2_9)]) (cs := []) en21 rfl rfl (call_v (fun w hw => IsScoresI_c w A2_9 ys_9.length c2_9 ys_9 ((holds_row (List.Mem.head _)) w hw) rfl h_9.1 (by first | assumption | omega | (simp; omega))))) rfl rfl (kt_if rfl (fun c18 => ?_) (fun c18 => ?_))
        ·
          have hsc : ScP ys_9 := c18
          have hst := strong_turn hsc
          have hss := strong_sorted (xs := ys_9) c18.1.valid
          refine wl_go rfl rfl ?_
          refine wl_v (ov_not rfl) rfl rfl rfl ?_
          refine wl_v (ov_pick_f rfl rfl) rfl rfl rfl ?_
          refine wl_nil ?_
          refine ce_then ?_
          refine cw_false rfl ?_
          refine cw_skip ?_
          refine ce_then ?_
          refine cw_seq ?_
          refine cw_region ?_
          refine wl_v (ov_move rfl) rfl rfl rfl ?_
          refine wl_r (or_call (fv := []) (vs := [.slice A2_9 (ys_9.length) (c2_9)]) (cs := []) en22 rfl rfl (call_x2 (fun w hw => ComplementI_c w A2_9 ys_9.length c2_9 ys_9 ((holds_row (List.Mem.head _)) w hw) rfl h_9.1 (by first | assumption | omega | (simp; omega))))) rfl rfl (kt2p rfl (fun A2_26 c2_26 h_26 => ?_))
          refine wl_r (or_call (fv := []) (vs := [.slice A2_26 ((complV ys_9).length) (c2_26)]) (cs := []) en19 rfl rfl (call_v (fun w hw => StrongI_c w A2_26 ((complV ys_9).length) c2_26 (complV ys_9) ((holds_row (List.Mem.head _)) w hw) rfl h_26 (by first | assumption | omega | (simp; omega))))) rfl rfl (kt_if rfl (fun c27 => ?_) (fun c27 => ?_))
          ·
            refine wl_v (ov_move rfl) rfl rfl rfl ?_
            refine wl_v (ov_eqlb uI4 rfl rfl) rfl rfl rfl ?_
            refine wl_v (ov_move rfl) rfl rfl rfl ?_
            refine wl_go rfl rfl ?_
            refine wl_v (ov_move rfl) rfl rfl rfl ?_
            refine wl_go rfl rfl ?_
            refine wl_r (or_call (fv := []) (vs := [.slice A2_9 (ys_9.length) (c2_9)]) (cs := []) en23 rfl rfl (call_x3 (fun w hw => SortDegreesI_c w A2_9 ys_9.length c2_9 ys_9 ((holds_row (List.Mem.tail _ (List.Mem.head _))) w hw) rfl h_9.1 (by first | assumption | omega | (simp; omega))))) rfl rfl (kt3p rfl (fun A2_32 c2_32 c3_32 h_32 => ?_))
            refine wl_go rfl rfl ?_
            refine wl_r (or_call (fv := []) (vs := [.slice A2_32 ((sortedL ys_9).length) (c2_32)]) (cs := []) en19 rfl rfl (call_v (fun w hw => StrongI_c w A2_32 ((sortedL ys_9).length) c2_32 (sortedL ys_9) ((holds_row (List.Mem.head _)) w hw) rfl h_32 (by first | assumption | omega | (simp; omega))))) rfl rfl (kt_if rfl (fun c33 => ?_) (fun c33 => ?_))
            ·
              refine wl_go rfl rfl ?_
              refine wl_v (ov_move rfl) rfl rfl rfl ?_
              refine wl_go rfl rfl ?_
              refine wl_v (ov_eqlb uI4 rfl rfl) rfl rfl rfl ?_
              refine wl_v (ov_pick_t rfl rfl) rfl rfl rfl ?_
              refine wl_v (ov_assign rfl) rfl rfl rfl ?_
              refine wl_nil ?_
              refine ce_then ?_
              refine cw_ret ?_
              refine ce_results (v := .bool true) (res1 rfl (rv_t rfl)) (fun w' hw => ?_)
              exact ⟨rfl, (Keep.nil.ss hw).to_new⟩
            ·
              refine wl_go rfl rfl ?_
              refine wl_v (ov_move rfl) rfl rfl rfl ?_
              refine wl_go rfl rfl ?_
              refine wl_v (ov_eqlb uI4 rfl rfl) rfl rfl rfl ?_
              refine wl_v (ov_pick_t rfl rfl) rfl rfl rfl ?_
              refine wl_v (ov_assign rfl) rfl rfl rfl ?_
              refine wl_nil ?_
              refine ce_then ?_
              refine cw_ret ?_
              refine ce_results (v := .bool false) (res1 rfl (rv_t rfl)) (fun w' hw => ?_)
              exfalso
              exact c33 (hss.2 c11)
          ·
            refine wl_v (ov_move rfl) rfl rfl rfl ?_
            refine wl_v (ov_eqlb uI4 rfl rfl) rfl rfl rfl ?_
            refine wl_v (ov_move rfl) rfl rfl rfl ?_
            refine wl_not rfl rfl rfl rfl rfl rfl ?_
            refine wl_not rfl rfl rfl rfl rfl rfl ?_
            refine wl_not rfl rfl rfl rfl rfl rfl ?_
            refine wl_not rfl rfl rfl rfl rfl rfl ?_
            refine wl_not rfl rfl rfl rfl rfl rfl ?_
            refine wl_v (ov_pick_f rfl rfl) rfl rfl rfl ?_
            refine wl_v (ov_assign rfl) rfl rfl rfl ?_
            refine wl_nil ?_
            refine ce_then ?_
            refine cw_ret ?_
            refine ce_results (v := .bool false) (res1 rfl (rv_t rfl)) (fun w' hw => ?_)
            exfalso
            exact c27 (hst.2 c11)
        ·
          refine wl_go rfl rfl ?_
          refine wl_v (ov_not rfl) rfl rfl rfl ?_
          refine wl_v (ov_pick_f rfl rfl) rfl rfl rfl ?_
          refine wl_nil ?_
          refine ce_then ?_
          refine cw_true rfl ?_
          refine cw_seq ?_
          refine cw_region ?_
          refine wl_v (ov_move rfl) rfl rfl rfl ?_
          refine wl_v (ov_move rfl) rfl rfl rfl ?_
          refine wl_r (or_call (fv := []) (vs := [.slice A2_9 (ys_9.length) (c2_9)]) (cs := []) en20 rfl rfl (call_v (fun w hw => StrongS_c w A2_9 ys_9.length c2_9 ys_9 ((holds_row (List.Mem.head _)) w hw) rfl h_9.1 (by first | assumption | omega | (simp; omega))))) rfl rfl (kt_if rfl (fun c23 => ?_) (fun c23 => ?_))
          ·
            refine wl_v (ov_eqlb uI4 rfl rfl) rfl rfl rfl ?_
            refine wl_v (ov_assign rfl) rfl rfl rfl ?_
            refine wl_nil ?_
            refine ce_then ?_
            refine cw_ret ?_
            refine ce_then_ret ?_
            refine ce_results (v := .bool true) (res1 rfl (rv_t rfl)) (fun w' hw => ?_)
            exact ⟨rfl, (Keep.nil.ss hw).to_new⟩
          ·
            exact absurd c11 c23
      ·
        exact absurd c11 c14
    ·
      refine wl_v (ov_assign rfl) rfl rfl rfl ?_
      refine wl_nil ?_
      refine ce_then ?_
      refine cw_seq ?_
      refine cw_seq ?_
      refine cw_region ?_
      refine wl_v (ov_move rfl) rfl rfl rfl ?_
      refine wl_v (ov_move rfl) rfl rfl rfl ?_
      refine wl_r (or_call (fv := []) (vs := [.slice A2_9 (ys_9.length) (c2_9)]) (cs := []) en20 rfl rfl (call_v (fun w hw => StrongS_c w A2_9 ys_9.length c2_9 ys_9 ((holds_row (List.Mem.head _)) w hw) rfl h_9.1 (by first | assumption | omega | (simp; omega))))) rfl rfl (kt_if rfl (fun c14 => ?_) (fun c14 => ?_))
      ·
        exact absurd c14 c11
      ·
        refine wl_v (ov_neqb uI4 rfl rfl) rfl rfl rfl ?_
        refine wl_v (ov_move rfl) rfl rfl rfl ?_
        refine wl_go rfl rfl ?_
        refine wl_v (ov_move rfl) rfl rfl rfl ?_
        refine wl_go rfl rfl ?_
        refine wl_r (or_call (fv := []) (vs := [.slice A2_9 (ys_9.length) (c2_9)]) (cs := []) en21 rfl rfl (call_v (fun w hw => IsScoresI_c w A2_9 ys_9.length c2_9 ys_9 ((holds_row (List.Mem.head _)) w hw) rfl h_9.1 (by first | assumption | omega | (simp; omega))))) rfl rfl (kt_if rfl (fun c18 => ?_) (fun c18 => ?_))
        ·
          have hsc : ScP ys_9 := c18
          have hst := strong_turn hsc
          have hss := strong_sorted (xs := ys_9) c18.1.valid
          refine wl_go rfl rfl ?_
          refine wl_v (ov_not rfl) rfl rfl rfl ?_
          refine wl_v (ov_pick_f rfl rfl) rfl rfl rfl ?_
          refine wl_nil ?_
          refine ce_then ?_
          refine cw_false rfl ?_
          refine cw_skip ?_
          refine ce_then ?_
          refine cw_seq ?_
          refine cw_region ?_
          refine wl_v (ov_move rfl) rfl rfl rfl ?_
          refine wl_r (or_call (fv := []) (vs := [.slice A2_9 (ys_9.length) (c2_9)]) (cs := []) en22 rfl rfl (call_x2 (fun w hw => ComplementI_c w A2_9 ys_9.length c2_9 ys_9 ((holds_row (List.Mem.head _)) w hw) rfl h_9.1 (by first | assumption | omega | (simp; omega))))) rfl rfl (kt2p rfl (fun A2_26 c2_26 h_26 => ?_))
          refine wl_r (or_call (fv := []) (vs := [.slice A2_26 ((complV ys_9).length) (c2_26)]) (cs := []) en19 rfl rfl (call_v (fun w hw => StrongI_c w A2_26 ((complV ys_9).length) c2_26 (complV ys_9) ((holds_row (List.Mem.head _)) w hw) rfl h_26 (by first | assumption | omega | (simp; omega))))) rfl rfl (kt_if rfl (fun c27 => ?_) (fun c27 => ?_))
          ·
            refine wl_v (ov_move rfl) rfl rfl rfl ?_
            refine wl_v (ov_eqlb uI4 rfl rfl) rfl rfl rfl ?_
            refine wl_v (ov_move rfl) rfl rfl rfl ?_
            refine wl_not rfl rfl rfl rfl rfl rfl ?_
            refine wl_not rfl rfl rfl rfl rfl rfl ?_
            refine wl_not rfl rfl rfl rfl rfl rfl ?_
            refine wl_not rfl rfl rfl rfl rfl rfl ?_
            refine wl_not rfl rfl rfl rfl rfl rfl ?_
            refine wl_v (ov_pick_f rfl rfl) rfl rfl rfl ?_
            refine wl_v (ov_assign rfl) rfl rfl rfl ?_
            refine wl_nil ?_
            refine ce_then ?_
            refine cw_ret ?_
            refine ce_results (v := .bool false) (res1 rfl (rv_t rfl)) (fun w' hw => ?_)
            exfalso
            exact c11 (hst.1 c27)
          ·
            refine wl_v (ov_move rfl) rfl rfl rfl ?_
            refine wl_v (ov_eqlb uI4 rfl rfl) rfl rfl rfl ?_
            refine wl_v (ov_move rfl) rfl rfl rfl ?_
            refine wl_go rfl rfl ?_
            refine wl_v (ov_move rfl) rfl rfl rfl ?_
            refine wl_go rfl rfl ?_
            refine wl_r (or_call (fv := []) (vs := [.slice A2_9 (ys_9.length) (c2_9)]) (cs := []) en23 rfl rfl (call_x3 (fun w hw => SortDegreesI_c w A2_9 ys_9.length c2_9 ys_9 ((holds_row (List.Mem.tail _ (List.Mem.head _))) w hw) rfl h_9.1 (by first | assumption | omega | (simp; omega))))) rfl rfl (kt3p rfl (fun A2_32 c2_32 c3_32 h_32 => ?_))
            refine wl_go rfl rfl ?_
            refine wl_r (or_call (fv := []) (vs := [.slice A2_32 ((sortedL ys_9).length) (c2_32)]) (cs := []) en19 rfl rfl (call_v (fun w hw => StrongI_c w A2_32 ((sortedL ys_9).length) c2_32 (sortedL ys_9) ((holds_row (List.Mem.head _)) w hw) rfl h_32 (by first | assumption | omega | (simp; omega))))) rfl rfl (kt_if rfl (fun c33 => ?_) (fun c33 => ?_))
            ·
              refine wl_go rfl rfl ?_
              refine wl_v (ov_move rfl) rfl rfl rfl ?_
              refine wl_go rfl rfl ?_
              refine wl_v (ov_eqlb uI4 rfl rfl) rfl rfl rfl ?_
              refine wl_v (ov_pick_t rfl rfl) rfl rfl rfl ?_
              refine wl_v (ov_assign rfl) rfl rfl rfl ?_
              refine wl_nil ?_
              refine ce_then ?_
              refine cw_ret ?_
              refine ce_results (v := .bool false) (res1 rfl (rv_t rfl)) (fun w' hw => ?_)
              exfalso
              exact c11 (hss.1 c33)
            ·
              refine wl_go rfl rfl ?_
              refine wl_v (ov_move rfl) rfl rfl rfl ?_
              refine wl_go rfl rfl ?_
              refine wl_v (ov_eqlb uI4 rfl rfl) rfl rfl rfl ?_
              refine wl_v (ov_pick_t rfl rfl) rfl rfl rfl ?_
              refine wl_v (ov_assign rfl) rfl rfl rfl ?_
              refine wl_nil ?_
              refine ce_then ?_
              refine cw_ret ?_
              refine ce_results (v := .bool true) (res1 rfl (rv_t rfl)) (fun w' hw => ?_)
              exact ⟨rfl, (Keep.nil.ss hw).to_new⟩
        ·
          refine wl_go rfl rfl ?_
          refine wl_v (ov_not rfl) rfl rfl rfl ?_
          refine wl_v (ov_pick_f rfl rfl) rfl rfl rfl ?_
          refine wl_nil ?_
          refine ce_then ?_
          refine cw_true rfl ?_
          refine cw_seq ?_
          refine cw_region ?_
          refine wl_v (ov_move rfl) rfl rfl rfl ?_
          refine wl_v (ov_move rfl) rfl rfl rfl ?_
          refine wl_r (or_call (fv := []) (vs := [.slice A2_9 (ys_9.length) (c2_9)]) (cs := []) en20 rfl rfl (call_v (fun w hw => StrongS_c w A2_9 ys_9.length c2_9 ys_9 ((holds_row (List.Mem.head _)) w hw) rfl h_9.1 (by first | assumption | omega | (simp; omega))))) rfl rfl (kt_if rfl (fun c23 => ?_) (fun c23 => ?_))
          ·
            exact absurd c23 c11
          ·
            refine wl_v (ov_eqlb uI4 rfl rfl) rfl rfl rfl ?_
            refine wl_v (ov_assign rfl) rfl rfl rfl ?_
            refine wl_nil ?_
            refine ce_then ?_
            refine cw_ret ?_
            refine ce_then_ret ?_
            refine ce_results (v := .bool true) (res1 rfl (rv_t rfl)) (fun w' hw => ?_)
            exact ⟨rfl, (Keep.nil.ss hw).to_new⟩
end Go.Proofs.Ytholcpgoioaccaa.LFnIsStrongScores
