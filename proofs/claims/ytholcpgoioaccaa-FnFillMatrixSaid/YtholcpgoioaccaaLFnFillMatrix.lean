/- Walks of functions of the given program: each returns what its Lean function says and leaves the memory that was there as it was. Conditions: those of each theorem. -/
import Derived.Test.YtholcpgoioaccaaSm
import Derived.Test.YtholcpgoioaccaaProg
import Derived.Test.YtholcpgoioaccaaPl
import Derived.Test.YtholcpgoioaccaaPo
import Derived.Test.YtholcpgoioaccaaPd
import Derived.Test.YtholcpgoioaccaaPe
import Derived.Test.YtholcpgoioaccaaPh
import Derived.Test.YtholcpgoioaccaaPm
import Derived.Test.YtholcpgoioaccaaPc
import Derived.Test.YtholcpgoioaccaaPs
import Derived.Test.YtholcpgoioaccaaPt
import Derived.Test.YtholcpgoioaccaaPu
import Derived.Test.YtholcpgoioaccaaPv
import Derived.Test.YtholcpgoioaccaaSo
import Derived.Test.YtholcpgoioaccaaSh
import Derived.Test.YtholcpgoioaccaaT
import Derived.Test.YtholcpgoioaccaaW12
import Derived.Test.YtholcpgoioaccaaW30
import Derived.Test.YtholcpgoioaccaaW32
import Derived.Test.YtholcpgoioaccaaW33
import Derived.Test.YtholcpgoioaccaaW34
import Derived.KernelRfl
namespace Go.Proofs.Ytholcpgoioaccaa.LFnFillMatrix
open Go.Sx Go.RowKit Go.Proofs.Ytholcpgoioaccaa.T Go.Proofs.Ytholcpgoioaccaa.W12 Go.Proofs.Ytholcpgoioaccaa.W30 Go.Proofs.Ytholcpgoioaccaa.W32 Go.Proofs.Ytholcpgoioaccaa.W33 Go.Proofs.Ytholcpgoioaccaa.W34
open Go.Plain
set_option linter.unusedVariables false
set_option maxRecDepth 100000 in
theorem FnFillMatrix_c (w : World) (Ar : Option Addr) (nr : Nat) (cr : Nat) (bs : List (Nat)) (hAr : At w Ar (cells fY bs)) (eAr : bs.length = nr) (lAr : nr ≤ cr) (hb : ∀ x ∈ bs, x < 256) : Calls Try.prog 6 #[.slice Ar (nr) (cr)] w (Ret fun rv w' => rv = .bool true ∧ New w w' []) := by
  have oAr := hAr.atB
  subst eAr
  refine fn_enter (args := [.slice Ar (bs.length) (cr)]) Try.func6 rfl Try.ntmps6 rfl (SS.start w) ?_
  refine cw_seq ?_
  refine cw_region ?_
  refine wl_v (ov_assign rfl) rfl rfl rfl ?_
  refine wl_nil ?_
  refine ce_then ?_
  refine cw_seq ?_
  refine cw_seq ?_
  refine cw_region ?_
  refine wl_v (ov_move rfl) rfl rfl rfl ?_
  refine wl_v (ov_len (sliceI_spec sI22) rfl) rfl rfl rfl ?_
  refine wl_if (ov_gtr rfl rfl) rfl rfl rfl (fun c13 => ?_) (fun c13 => ?_)
  ·
    refine wl_nil ?_
    refine ce_then ?_
    refine cw_true rfl ?_
    refine cw_seq ?_
    refine cw_region ?_
    refine wl_v (ov_assign rfl) rfl rfl rfl ?_
    refine wl_nil ?_
    refine ce_then ?_
    refine cw_ret ?_
    refine ce_then_ret ?_
    refine ce_results (v := .bool true) (res1 rfl (rv_t rfl)) (fun w' hw => ?_)
    exact ⟨rfl, (Keep.nil.ss hw).to_new⟩
  ·
    refine wl_nil ?_
    refine ce_then ?_
    refine cw_false rfl ?_
    refine cw_skip ?_
    refine ce_then ?_
    refine cw_seq ?_
    refine cw_region ?_
    refine wl_v (ov_move rfl) rfl rfl rfl ?_
    refine wl_r (or_call (fv := []) (vs := [.slice Ar (bs.length) (cr)]) (cs := []) en24 rfl rfl (call_x6 (fun w hw => DrawFillMatrix_c w Ar bs.length cr bs ((holds_old oAr) w hw) rfl lAr (by first | assumption | omega | (simp; omega))))) rfl rfl (kt6p rfl (fun A1_16 c1_16 xs_16 A2_16 c2_16 ys_16 h_16 => ?_))
    have hb16 := h_16.2.2
    have hfl := fillV_len xs_16 ys_16
    have hfr := fillV_rows xs_16 ys_16
    have hfz : (fillV xs_16 ys_16).1.length ≤ 1048576 ∧ ∀ r ∈ (fillV xs_16 ys_16).1, r.length ≤ 1048576 := ⟨by omega, fun r hr => by have := hfr r hr; omega⟩
    have hml := marg_len (fillV xs_16 ys_16).1
    refine wl_v (ov_move rfl) rfl rfl rfl ?_
    refine wl_v (ov_extract rfl rfl) rfl rfl rfl ?_
    refine wl_v (ov_extract rfl rfl) rfl rfl rfl ?_
    refine wl_v (ov_assign rfl) rfl rfl rfl ?_
    refine wl_v (ov_assign rfl) rfl rfl rfl ?_
    refine wl_nil ?_
    refine ce_then ?_
    refine cw_seq ?_
    refine cw_region ?_
    refine wl_v (ov_move rfl) rfl rfl rfl ?_
    refine wl_v (ov_move rfl) rfl rfl rfl ?_
    refine wl_r (or_call (fv := []) (vs := [.slice A1_16 (xs_16.length) (c1_16), .slice A2_16 (ys_16.length) (c2_16)]) (cs := []) en25 rfl rfl (call_x4 (fun w hw => FillI_c w A1_16 xs_16.length c1_16 xs_16 A2_16 ys_16.length c2_16 ys_16 ((holds_row (List.Mem.head _)) w hw) rfl h_16.1 ((holds_row (List.Mem.tail _ (List.Mem.head _))) w hw) rfl h_16.2.1 (by first | assumption | omega | (simp; omega))))) rfl rfl (kt4p rfl (fun A2_22 k2_22 c2_22 hs2_22 h_22 => ?_))
    refine wl_v (ov_move rfl) rfl rfl rfl ?_
    refine wl_v (ov_extract rfl rfl) rfl rfl rfl ?_
    refine wl_v (ov_extract rfl rfl) rfl rfl rfl ?_
    refine wl_v (ov_assign rfl) rfl rfl rfl ?_
    refine wl_v (ov_assign rfl) rfl rfl rfl ?_
    refine wl_nil ?_
    refine ce_then ?_
    refine cw_seq ?_
    refine cw_region ?_
    refine wl_v (ov_move rfl) rfl rfl rfl ?_
    refine wl_v (ov_move rfl) rfl rfl rfl ?_
    refine wl_r (or_call (fv := []) (vs := [.slice A1_16 (xs_16.length) (c1_16), .slice A2_16 (ys_16.length) (c2_16)]) (cs := []) en26 rfl rfl (call_x4 (fun w hw => FillS_c w A1_16 xs_16.length c1_16 xs_16 A2_16 ys_16.length c2_16 ys_16 ((holds_row (List.Mem.tail _ (List.Mem.tail _ (List.Mem.head _)))) w hw) rfl h_16.1 ((holds_row (List.Mem.tail _ (List.Mem.tail _ (List.Mem.tail _ (List.Mem.head _))))) w hw) rfl h_16.2.1 (by first | assumption | omega | (simp; omega))))) rfl rfl (kt4p rfl (fun A2_28 k2_28 c2_28 hs2_28 h_28 => ?_))
    refine wl_v (ov_move rfl) rfl rfl rfl ?_
    refine wl_v (ov_extract rfl rfl) rfl rfl rfl ?_
    refine wl_v (ov_extract rfl rfl) rfl rfl rfl ?_
    refine wl_v (ov_assign rfl) rfl rfl rfl ?_
    refine wl_v (ov_assign rfl) rfl rfl rfl ?_
    refine wl_nil ?_
    refine ce_then ?_
    refine cw_seq ?_
    refine cw_seq ?_
    refine cw_region ?_
    refine wl_v (ov_move rfl) rfl rfl rfl ?_
    refine wl_v (ov_move rfl) rfl rfl rfl ?_
    refine ct_fact (nest_facts (List.Mem.tail _ (List.Mem.tail _ (List.Mem.tail _ (List.Mem.head _))))) (fun hnfns_22_1 => ?_)
    have hnfns_22_1l := hnfns_22_1.1
    refine ct_fact (nest_facts (List.Mem.tail _ (List.Mem.head _))) (fun hnfns_28_2 => ?_)
    have hnfns_28_2l := hnfns_28_2.1
    refine wl_r (or_call (fv := []) (vs := [.slice A2_22 ((fillV xs_16 ys_16).1.length) (k2_22), .slice A2_28 ((fillV xs_16 ys_16).1.length) (k2_28)]) (cs := []) en27 rfl rfl (call_v (fun w hw => equalLists_c w A2_22 ((fillV xs_16 ys_16).1.length) k2_22 hs2_22 ((fillV xs_16 ys_16).1) A2_28 ((fillV xs_16 ys_16).1.length) k2_28 hs2_28 ((fillV xs_16 ys_16).1) ((holds_row (List.Mem.tail _ (List.Mem.tail _ (List.Mem.head _)))) w hw) rfl h_22 hnfns_22_1 ((mx_nest (List.Mem.tail _ (List.Mem.tail _ (List.Mem.tail _ (List.Mem.head _))))) w hw) ((holds_row (List.Mem.head _)) w hw) rfl h_28 hnfns_28_2 ((mx_nest (List.Mem.tail _ (List.Mem.head _))) w hw) (by first | assumption | omega | (simp; omega))))) rfl rfl (kt_if rfl (fun c33 => ?_) (fun c33 => ?_))
    ·
      refine wl_v (ov_not rfl) rfl rfl rfl ?_
      refine wl_v (ov_move rfl) rfl rfl rfl ?_
      refine wl_go rfl rfl ?_
      refine wl_v (ov_move rfl) rfl rfl rfl ?_
      refine wl_go rfl rfl ?_
      refine wl_v (ov_move rfl) rfl rfl rfl ?_
      refine wl_go rfl rfl ?_
      refine wl_if (OpV.dec (ov_neqb uI4 rfl rfl)) rfl rfl rfl (fun c38 => ?_) (fun c38 => ?_)
      ·
        simp at c38
      ·
        refine wl_v (ov_pick_f rfl rfl) rfl rfl rfl ?_
        refine wl_v (ov_move rfl) rfl rfl rfl ?_
        refine wl_go rfl rfl ?_
        refine wl_v (ov_move rfl) rfl rfl rfl ?_
        refine wl_go rfl rfl ?_
        refine wl_if (OpV.dec (ov_not rfl)) rfl rfl rfl (fun c42 => ?_) (fun c42 => ?_)
        ·
          refine wl_v (ov_pick_f rfl rfl) rfl rfl rfl ?_
          refine wl_nil ?_
          refine ce_then ?_
          refine cw_true rfl ?_
          refine cw_seq ?_
          refine cw_region ?_
          refine wl_v (ov_move rfl) rfl rfl rfl ?_
          refine wl_v (ov_move rfl) rfl rfl rfl ?_
          refine ct_fact (nest_facts (List.Mem.tail _ (List.Mem.tail _ (List.Mem.tail _ (List.Mem.head _))))) (fun hnfns_22_3 => ?_)
          have hnfns_22_3l := hnfns_22_3.1
          refine ct_fact (nest_facts (List.Mem.tail _ (List.Mem.head _))) (fun hnfns_28_4 => ?_)
          have hnfns_28_4l := hnfns_28_4.1
          refine wl_r (or_call (fv := []) (vs := [.slice A2_22 ((fillV xs_16 ys_16).1.length) (k2_22), .slice A2_28 ((fillV xs_16 ys_16).1.length) (k2_28)]) (cs := []) en27 rfl rfl (call_v (fun w hw => equalLists_c w A2_22 ((fillV xs_16 ys_16).1.length) k2_22 hs2_22 ((fillV xs_16 ys_16).1) A2_28 ((fillV xs_16 ys_16).1.length) k2_28 hs2_28 ((fillV xs_16 ys_16).1) ((holds_row (List.Mem.tail _ (List.Mem.tail _ (List.Mem.head _)))) w hw) rfl h_22 hnfns_22_3 ((mx_nest (List.Mem.tail _ (List.Mem.tail _ (List.Mem.tail _ (List.Mem.head _))))) w hw) ((holds_row (List.Mem.head _)) w hw) rfl h_28 hnfns_28_4 ((mx_nest (List.Mem.tail _ (List.Mem.head _))) w hw) (by first | assumption | omega | (simp; omega))))) rfl rfl (kt_if rfl (fun c46 => ?_) (fun c46 => ?_))
          ·
            refine wl_v (ov_move rfl) rfl rfl rfl ?_
            refine wl_go rfl rfl ?_
            refine wl_v (ov_move rfl) rfl rfl rfl ?_
            refine wl_go rfl rfl ?_
            refine wl_v (ov_move rfl) rfl rfl rfl ?_
            refine wl_go rfl rfl ?_
            refine wl_if (OpV.dec (ov_eqlb uI4 rfl rfl)) rfl rfl rfl (fun c50 => ?_) (fun c50 => ?_)
            ·
              refine wl_v (ov_pick_t rfl rfl) rfl rfl rfl ?_
              refine wl_v (ov_assign rfl) rfl rfl rfl ?_
              refine wl_nil ?_
              refine ce_then ?_
              refine cw_ret ?_
              refine ce_then_ret ?_
              refine ce_results (v := .bool true) (res1 rfl (rv_t rfl)) (fun w' hw => ?_)
              exact ⟨rfl, (Keep.nil.ss hw).to_new⟩
            ·
              simp at c50
          ·
            exact absurd rfl c46
        ·
          have hmv := fillV_marg (r := xs_16) (c := ys_16) (by simpa using c42)
          refine wl_v (ov_pick_f rfl rfl) rfl rfl rfl ?_
          refine wl_nil ?_
          refine ce_then ?_
          refine cw_false rfl ?_
          refine cw_skip ?_
          refine ce_then ?_
          refine cw_seq ?_
          refine cw_region ?_
          refine wl_v (ov_move rfl) rfl rfl rfl ?_
          refine ct_fact (nest_facts (List.Mem.tail _ (List.Mem.tail _ (List.Mem.tail _ (List.Mem.head _))))) (fun hnfns_22_5 => ?_)
          have hnfns_22_5l := hnfns_22_5.1
          refine wl_r (or_call (fv := []) (vs := [.slice A2_22 ((fillV xs_16 ys_16).1.length) (k2_22)]) (cs := []) en28 rfl rfl (call_x4 (fun w hw => MarginsI_c w A2_22 ((fillV xs_16 ys_16).1.length) k2_22 hs2_22 ((fillV xs_16 ys_16).1) ((holds_row (List.Mem.tail _ (List.Mem.tail _ (List.Mem.head _)))) w hw) rfl h_22 hnfns_22_5 ((mx_nest (List.Mem.tail _ (List.Mem.tail _ (List.Mem.tail _ (List.Mem.head _))))) w hw) (by first | assumption | omega | (simp; omega))))) rfl rfl (kt4p rfl (fun A2_54 c2_54 A3_54 c3_54 h_54 => ?_))
          refine wl_v (ov_move rfl) rfl rfl rfl ?_
          refine wl_v (ov_extract rfl rfl) rfl rfl rfl ?_
          refine wl_v (ov_extract rfl rfl) rfl rfl rfl ?_
          refine wl_v (ov_assign rfl) rfl rfl rfl ?_
          refine wl_v (ov_assign rfl) rfl rfl rfl ?_
          refine wl_nil ?_
          refine ce_then ?_
          refine cw_seq ?_
          refine cw_region ?_
          refine wl_v (ov_move rfl) rfl rfl rfl ?_
          refine wl_v (ov_move rfl) rfl rfl rfl ?_
          refine wl_r (or_call (fv := []) (vs := [.slice A2_54 ((margV ((fillV xs_16 ys_16).1)).1.length) (c2_54), .slice A1_16 (xs_16.length) (c1_16)]) (cs := []) en14 rfl rfl (call_v (fun w hw => equalInts_c w A2_54 ((margV ((fillV xs_16 ys_16).1)).1.length) c2_54 ((margV ((fillV xs_16 ys_16).1)).1) A1_16 xs_16.length c1_16 xs_16 ((holds_row (List.Mem.head _)) w hw) rfl h_54.1 ((holds_row (List.Mem.tail _ (List.Mem.tail _ (List.Mem.tail _ (List.Mem.tail _ (List.Mem.tail _ (List.Mem.tail _ (List.Mem.head _)))))))) w hw) rfl h_16.1 (by first | assumption | omega | (simp; omega))))) rfl rfl (kt_if rfl (fun c59 => ?_) (fun c59 => ?_))
          ·
            refine wl_v (ov_move rfl) rfl rfl rfl ?_
            refine wl_go rfl rfl ?_
            refine wl_v (ov_move rfl) rfl rfl rfl ?_
            refine wl_go rfl rfl ?_
            refine wl_v (ov_move rfl) rfl rfl rfl ?_
            refine wl_go rfl rfl ?_
            refine wl_r (or_call (fv := []) (vs := [.slice A3_54 ((margV ((fillV xs_16 ys_16).1)).2.length) (c3_54), .slice A2_16 (ys_16.length) (c2_16)]) (cs := []) en14 rfl rfl (call_v (fun w hw => equalInts_c w A3_54 ((margV ((fillV xs_16 ys_16).1)).2.length) c3_54 ((margV ((fillV xs_16 ys_16).1)).2) A2_16 ys_16.length c2_16 ys_16 ((holds_row (List.Mem.tail _ (List.Mem.head _))) w hw) rfl h_54.2 ((holds_row (List.Mem.tail _ (List.Mem.tail _ (List.Mem.tail _ (List.Mem.tail _ (List.Mem.tail _ (List.Mem.tail _ (List.Mem.tail _ (List.Mem.head _))))))))) w hw) rfl h_16.2.1 (by first | assumption | omega | (simp; omega))))) rfl rfl (kt_if rfl (fun c63 => ?_) (fun c63 => ?_))
            ·
              refine wl_v (ov_pick_t rfl rfl) rfl rfl rfl ?_
              refine wl_v (ov_assign rfl) rfl rfl rfl ?_
              refine wl_nil ?_
              refine ce_then ?_
              refine cw_ret ?_
              refine ce_results (v := .bool true) (res1 rfl (rv_t rfl)) (fun w' hw => ?_)
              exact ⟨rfl, (Keep.nil.ss hw).to_new⟩
            ·
              refine wl_v (ov_pick_t rfl rfl) rfl rfl rfl ?_
              refine wl_v (ov_assign rfl) rfl rfl rfl ?_
              refine wl_nil ?_
              refine ce_then ?_
              refine cw_ret ?_
              refine ce_results (v := .bool false) (res1 rfl (rv_t rfl)) (fun w' hw => ?_)
              exfalso
              exact c63 (by rw [hmv])
          ·
            refine wl_v (ov_move rfl) rfl rfl rfl ?_
            refine wl_not rfl rfl rfl rfl rfl rfl ?_
            refine wl_not rfl rfl rfl rfl rfl rfl ?_
            refine wl_not rfl rfl rfl rfl rfl rfl ?_
            refine wl_v (ov_pick_f rfl rfl) rfl rfl rfl ?_
            refine wl_v (ov_assign rfl) rfl rfl rfl ?_
            refine wl_nil ?_
            refine ce_then ?_
            refine cw_ret ?_
            refine ce_results (v := .bool false) (res1 rfl (rv_t rfl)) (fun w' hw => ?_)
            exfalso
            exact c59 (by rw [hmv])
    ·
      exact absurd rfl c33
end Go.Proofs.Ytholcpgoioaccaa.LFnFillMatrix
