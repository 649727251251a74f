/- Walks of functions of the given program: each returns what its Lean function says and leaves the memory that was there as it was. Conditions: those of each theorem. -/
import Derived.Test.YtholcpgoioaccaaSm
import Derived.Test.YtholcpgoioaccaaProg
import Derived.Test.YtholcpgoioaccaaPl
import Derived.Test.YtholcpgoioaccaaPo
import Derived.Test.YtholcpgoioaccaaPd
import Derived.Test.YtholcpgoioaccaaPe
import Derived.Test.YtholcpgoioaccaaPh
import Derived.Test.YtholcpgoioaccaaPm
import Derived.Test.YtholcpgoioaccaaPc
import Derived.Test.YtholcpgoioaccaaPs
import Derived.Test.YtholcpgoioaccaaPt
import Derived.Test.YtholcpgoioaccaaPu
import Derived.Test.YtholcpgoioaccaaSo
import Derived.Test.YtholcpgoioaccaaSh
import Derived.Test.YtholcpgoioaccaaT
import Derived.Test.YtholcpgoioaccaaW10
import Derived.Test.YtholcpgoioaccaaW30
import Derived.KernelRfl
namespace Go.Proofs.Ytholcpgoioaccaa.LFnValidMargins
open Go.Sx Go.RowKit Go.Proofs.Ytholcpgoioaccaa.T Go.Proofs.Ytholcpgoioaccaa.W10 Go.Proofs.Ytholcpgoioaccaa.W30
open Go.Plain
set_option linter.unusedVariables false
set_option maxRecDepth 100000 in
theorem FnValidMargins_c (w : World) (Ar : Option Addr) (nr : Nat) (cr : Nat) (bs : List (Nat)) (hAr : At w Ar (cells fY bs)) (eAr : bs.length = nr) (lAr : nr ≤ cr) (hb : ∀ x ∈ bs, x < 256) : Calls Try.prog 3 #[.slice Ar (nr) (cr)] w (Ret fun rv w' => rv = .bool true ∧ New w w' []) := by
  have oAr := hAr.atB
  subst eAr
  refine fn_enter (args := [.slice Ar (bs.length) (cr)]) Try.func3 rfl Try.ntmps3 rfl (SS.start w) ?_
  refine cw_seq ?_
  refine cw_region ?_
  refine wl_v (ov_assign rfl) rfl rfl rfl ?_
  refine wl_nil ?_
  refine ce_then ?_
  refine cw_seq ?_
  refine cw_seq ?_
  refine cw_region ?_
  refine wl_v (ov_move rfl) rfl rfl rfl ?_
  refine wl_v (ov_len (sliceI_spec sI22) rfl) rfl rfl rfl ?_
  refine wl_if (ov_gtr rfl rfl) rfl rfl rfl (fun c8 => ?_) (fun c8 => ?_)
  ·
    refine wl_nil ?_
    refine ce_then ?_
    refine cw_true rfl ?_
    refine cw_seq ?_
    refine cw_region ?_
    refine wl_v (ov_assign rfl) rfl rfl rfl ?_
    refine wl_nil ?_
    refine ce_then ?_
    refine cw_ret ?_
    refine ce_then_ret ?_
    refine ce_results (v := .bool true) (res1 rfl (rv_t rfl)) (fun w' hw => ?_)
    exact ⟨rfl, (Keep.nil.ss hw).to_new⟩
  ·
    refine wl_nil ?_
    refine ce_then ?_
    refine cw_false rfl ?_
    refine cw_skip ?_
    refine ce_then ?_
    refine cw_seq ?_
    refine cw_region ?_
    refine wl_v (ov_move rfl) rfl rfl rfl ?_
    refine wl_r (or_call (fv := []) (vs := [.slice Ar (bs.length) (cr)]) (cs := []) en9 rfl rfl (call_x6 (fun w hw => DrawValidMargins_c w Ar bs.length cr bs ((holds_old oAr) w hw) rfl lAr (by first | assumption | omega | (simp; omega))))) rfl rfl (kt6p rfl (fun A1_11 c1_11 xs_11 A2_11 c2_11 ys_11 h_11 => ?_))
    have hb11 := h_11.2.2
    have hgl := galeV_len xs_11 ys_11
    have hgl2 := galeV_len ys_11 xs_11
    refine wl_v (ov_move rfl) rfl rfl rfl ?_
    refine wl_v (ov_extract rfl rfl) rfl rfl rfl ?_
    refine wl_v (ov_extract rfl rfl) rfl rfl rfl ?_
    refine wl_v (ov_assign rfl) rfl rfl rfl ?_
    refine wl_v (ov_assign rfl) rfl rfl rfl ?_
    refine wl_nil ?_
    refine ce_then ?_
    refine cw_seq ?_
    refine cw_region ?_
    refine wl_v (ov_move rfl) rfl rfl rfl ?_
    refine wl_v (ov_move rfl) rfl rfl rfl ?_
    refine wl_r (or_call (fv := []) (vs := [.slice A1_11 (xs_11.length) (c1_11), .slice A2_11 (ys_11.length) (c2_11)]) (cs := []) en10 rfl rfl (call_v (fun w hw => validMI_c w A1_11 xs_11.length c1_11 xs_11 A2_11 ys_11.length c2_11 ys_11 ((holds_row (List.Mem.head _)) w hw) rfl h_11.1 ((holds_row (List.Mem.tail _ (List.Mem.head _))) w hw) rfl h_11.2.1 (by first | assumption | omega | (simp; omega))))) rfl rfl (kt_if rfl (fun c16 => ?_) (fun c16 => ?_))
    ·
      refine wl_v (ov_assign rfl) rfl rfl rfl ?_
      refine wl_nil ?_
      refine ce_then ?_
      refine cw_seq ?_
      refine cw_seq ?_
      refine cw_region ?_
      refine wl_v (ov_move rfl) rfl rfl rfl ?_
      refine wl_v (ov_move rfl) rfl rfl rfl ?_
      refine wl_v (ov_move rfl) rfl rfl rfl ?_
      refine wl_r (or_call (fv := []) (vs := [.slice A1_11 (xs_11.length) (c1_11), .slice A2_11 (ys_11.length) (c2_11)]) (cs := []) en11 rfl rfl (call_v (fun w hw => ValidMarginsS_c w A1_11 xs_11.length c1_11 xs_11 A2_11 ys_11.length c2_11 ys_11 ((holds_row (List.Mem.head _)) w hw) rfl h_11.1 ((holds_row (List.Mem.tail _ (List.Mem.head _))) w hw) rfl h_11.2.1 (by first | assumption | omega | (simp; omega))))) rfl rfl (kt_if rfl (fun c20 => ?_) (fun c20 => ?_))
      ·
        refine wl_v (ov_neqb uI4 rfl rfl) rfl rfl rfl ?_
        refine wl_v (ov_move rfl) rfl rfl rfl ?_
        refine wl_go rfl rfl ?_
        refine wl_v (ov_move rfl) rfl rfl rfl ?_
        refine wl_go rfl rfl ?_
        refine wl_v (ov_not rfl) rfl rfl rfl ?_
        refine wl_v (ov_pick_f rfl rfl) rfl rfl rfl ?_
        refine wl_nil ?_
        refine ce_then ?_
        refine cw_false rfl ?_
        refine cw_skip ?_
        refine ce_then ?_
        refine cw_seq ?_
        refine cw_region ?_
        refine wl_v (ov_move rfl) rfl rfl rfl ?_
        refine wl_v (ov_move rfl) rfl rfl rfl ?_
        refine wl_r (or_call (fv := []) (vs := [.slice A2_11 (ys_11.length) (c2_11), .slice A1_11 (xs_11.length) (c1_11)]) (cs := []) en10 rfl rfl (call_v (fun w hw => validMI_c w A2_11 ys_11.length c2_11 ys_11 A1_11 xs_11.length c1_11 xs_11 ((holds_row (List.Mem.tail _ (List.Mem.head _))) w hw) rfl h_11.2.1 ((holds_row (List.Mem.head _)) w hw) rfl h_11.1 (by first | assumption | omega | (simp; omega))))) rfl rfl (kt_if rfl (fun c33 => ?_) (fun c33 => ?_))
        ·
          refine wl_v (ov_move rfl) rfl rfl rfl ?_
          refine wl_go rfl rfl ?_
          refine wl_v (ov_move rfl) rfl rfl rfl ?_
          refine wl_go rfl rfl ?_
          refine wl_v (ov_move rfl) rfl rfl rfl ?_
          refine wl_go rfl rfl ?_
          refine wl_r (or_call (fv := []) (vs := [.slice A1_11 (xs_11.length) (c1_11), .slice A2_11 (ys_11.length) (c2_11)]) (cs := []) en12 rfl rfl (call_x2 (fun w hw => GaleSlacksI_c w A1_11 xs_11.length c1_11 xs_11 A2_11 ys_11.length c2_11 ys_11 ((holds_row (List.Mem.head _)) w hw) rfl h_11.1 ((holds_row (List.Mem.tail _ (List.Mem.head _))) w hw) rfl h_11.2.1 (by first | assumption | omega | (simp; omega))))) rfl rfl (kt2p rfl (fun A3_37 c3_37 h_37 => ?_))
          refine wl_go rfl rfl ?_
          refine wl_v (ov_len (sliceI_spec sI23) rfl) rfl rfl rfl ?_
          refine wl_go rfl rfl ?_
          refine wl_v (ov_move rfl) rfl rfl rfl ?_
          refine wl_go rfl rfl ?_
          refine wl_v (ov_len (sliceI_spec sI23) rfl) rfl rfl rfl ?_
          refine wl_go rfl rfl ?_
          refine wl_if (ov_eql rfl rfl) rfl rfl rfl (fun c41 => ?_) (fun c41 => ?_)
          ·
            refine wl_v (ov_pick_t rfl rfl) rfl rfl rfl ?_
            refine wl_v (ov_assign rfl) rfl rfl rfl ?_
            refine wl_nil ?_
            refine ce_then ?_
            refine cw_ret ?_
            refine ce_results (v := .bool true) (res1 rfl (rv_t rfl)) (fun w' hw => ?_)
            exact ⟨rfl, (Keep.nil.ss hw).to_new⟩
          ·
            exact absurd (by rw [show galeV xs_11 ys_11 = galeL xs_11 ys_11 from if_pos c16, galeL_len]) c41
        ·
          refine wl_v (ov_move rfl) rfl rfl rfl ?_
          refine wl_not rfl rfl rfl rfl rfl rfl ?_
          refine wl_not rfl rfl rfl rfl rfl rfl ?_
          refine wl_not rfl rfl rfl rfl rfl rfl ?_
          refine wl_not rfl rfl rfl rfl rfl rfl ?_
          refine wl_not rfl rfl rfl rfl rfl rfl ?_
          refine wl_not rfl rfl rfl rfl rfl rfl ?_
          refine wl_not rfl rfl rfl rfl rfl rfl ?_
          refine wl_v (ov_pick_f rfl rfl) rfl rfl rfl ?_
          refine wl_v (ov_assign rfl) rfl rfl rfl ?_
          refine wl_nil ?_
          refine ce_then ?_
          refine cw_ret ?_
          refine ce_results (v := .bool false) (res1 rfl (rv_t rfl)) (fun w' hw => ?_)
          exfalso
          exact c33 ⟨c16.2.1, c16.1, c16.2.2.2, c16.2.2.1⟩
      ·
        exact absurd c16 c20
    ·
      refine wl_v (ov_assign rfl) rfl rfl rfl ?_
      refine wl_nil ?_
      refine ce_then ?_
      refine cw_seq ?_
      refine cw_seq ?_
      refine cw_region ?_
      refine wl_v (ov_move rfl) rfl rfl rfl ?_
      refine wl_v (ov_move rfl) rfl rfl rfl ?_
      refine wl_v (ov_move rfl) rfl rfl rfl ?_
      refine wl_r (or_call (fv := []) (vs := [.slice A1_11 (xs_11.length) (c1_11), .slice A2_11 (ys_11.length) (c2_11)]) (cs := []) en11 rfl rfl (call_v (fun w hw => ValidMarginsS_c w A1_11 xs_11.length c1_11 xs_11 A2_11 ys_11.length c2_11 ys_11 ((holds_row (List.Mem.head _)) w hw) rfl h_11.1 ((holds_row (List.Mem.tail _ (List.Mem.head _))) w hw) rfl h_11.2.1 (by first | assumption | omega | (simp; omega))))) rfl rfl (kt_if rfl (fun c20 => ?_) (fun c20 => ?_))
      ·
        exact absurd c20 c16
      ·
        refine wl_v (ov_neqb uI4 rfl rfl) rfl rfl rfl ?_
        refine wl_v (ov_move rfl) rfl rfl rfl ?_
        refine wl_go rfl rfl ?_
        refine wl_v (ov_move rfl) rfl rfl rfl ?_
        refine wl_go rfl rfl ?_
        refine wl_v (ov_not rfl) rfl rfl rfl ?_
        refine wl_v (ov_pick_f rfl rfl) rfl rfl rfl ?_
        refine wl_nil ?_
        refine ce_then ?_
        refine cw_true rfl ?_
        refine cw_seq ?_
        refine cw_region ?_
        refine wl_v (ov_move rfl) rfl rfl rfl ?_
        refine wl_v (ov_move rfl) rfl rfl rfl ?_
        refine wl_v (ov_move rfl) rfl rfl rfl ?_
        refine wl_r (or_call (fv := []) (vs := [.slice A1_11 (xs_11.length) (c1_11), .slice A2_11 (ys_11.length) (c2_11)]) (cs := []) en11 rfl rfl (call_v (fun w hw => ValidMarginsS_c w A1_11 xs_11.length c1_11 xs_11 A2_11 ys_11.length c2_11 ys_11 ((holds_row (List.Mem.head _)) w hw) rfl h_11.1 ((holds_row (List.Mem.tail _ (List.Mem.head _))) w hw) rfl h_11.2.1 (by first | assumption | omega | (simp; omega))))) rfl rfl (kt_if rfl (fun c29 => ?_) (fun c29 => ?_))
        ·
          exact absurd c29 c16
        ·
          refine wl_v (ov_eqlb uI4 rfl rfl) rfl rfl rfl ?_
          refine wl_v (ov_assign rfl) rfl rfl rfl ?_
          refine wl_nil ?_
          refine ce_then ?_
          refine cw_ret ?_
          refine ce_then_ret ?_
          refine ce_results (v := .bool true) (res1 rfl (rv_t rfl)) (fun w' hw => ?_)
          exact ⟨rfl, (Keep.nil.ss hw).to_new⟩
end Go.Proofs.Ytholcpgoioaccaa.LFnValidMargins
