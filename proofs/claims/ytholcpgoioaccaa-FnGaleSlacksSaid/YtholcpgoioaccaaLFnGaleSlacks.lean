/- Walks of functions of the given program: each returns what its Lean function says and leaves the memory that was there as it was. Conditions: those of each theorem. -/
import Derived.Test.YtholcpgoioaccaaSm
import Derived.Test.YtholcpgoioaccaaProg
import Derived.Test.YtholcpgoioaccaaPl
import Derived.Test.YtholcpgoioaccaaPo
import Derived.Test.YtholcpgoioaccaaPd
import Derived.Test.YtholcpgoioaccaaPe
import Derived.Test.YtholcpgoioaccaaPh
import Derived.Test.YtholcpgoioaccaaPm
import Derived.Test.YtholcpgoioaccaaPc
import Derived.Test.YtholcpgoioaccaaPs
import Derived.Test.YtholcpgoioaccaaPt
import Derived.Test.YtholcpgoioaccaaPu
import Derived.Test.YtholcpgoioaccaaSo
import Derived.Test.YtholcpgoioaccaaSh
import Derived.Test.YtholcpgoioaccaaT
import Derived.Test.YtholcpgoioaccaaW10
import Derived.Test.YtholcpgoioaccaaW12
import Derived.Test.YtholcpgoioaccaaW30
import Derived.KernelRfl
namespace Go.Proofs.Ytholcpgoioaccaa.LFnGaleSlacks
open Go.Sx Go.RowKit Go.Proofs.Ytholcpgoioaccaa.T Go.Proofs.Ytholcpgoioaccaa.W10 Go.Proofs.Ytholcpgoioaccaa.W12 Go.Proofs.Ytholcpgoioaccaa.W30
open Go.Plain
set_option linter.unusedVariables false
set_option maxRecDepth 100000 in
theorem FnGaleSlacks_c (w : World) (Ar : Option Addr) (nr : Nat) (cr : Nat) (bs : List (Nat)) (hAr : At w Ar (cells fY bs)) (eAr : bs.length = nr) (lAr : nr ≤ cr) (hb : ∀ x ∈ bs, x < 256) : Calls Try.prog 4 #[.slice Ar (nr) (cr)] w (Ret fun rv w' => rv = .bool true ∧ New w w' []) := by
  have oAr := hAr.atB
  subst eAr
  refine fn_enter (args := [.slice Ar (bs.length) (cr)]) Try.func4 rfl Try.ntmps4 rfl (SS.start w) ?_
  refine cw_seq ?_
  refine cw_region ?_
  refine wl_v (ov_assign rfl) rfl rfl rfl ?_
  refine wl_nil ?_
  refine ce_then ?_
  refine cw_seq ?_
  refine cw_seq ?_
  refine cw_region ?_
  refine wl_v (ov_move rfl) rfl rfl rfl ?_
  refine wl_v (ov_len (sliceI_spec sI22) rfl) rfl rfl rfl ?_
  refine wl_if (ov_gtr rfl rfl) rfl rfl rfl (fun c8 => ?_) (fun c8 => ?_)
  ·
    refine wl_nil ?_
    refine ce_then ?_
    refine cw_true rfl ?_
    refine cw_seq ?_
    refine cw_region ?_
    refine wl_v (ov_assign rfl) rfl rfl rfl ?_
    refine wl_nil ?_
    refine ce_then ?_
    refine cw_ret ?_
    refine ce_then_ret ?_
    refine ce_results (v := .bool true) (res1 rfl (rv_t rfl)) (fun w' hw => ?_)
    exact ⟨rfl, (Keep.nil.ss hw).to_new⟩
  ·
    refine wl_nil ?_
    refine ce_then ?_
    refine cw_false rfl ?_
    refine cw_skip ?_
    refine ce_then ?_
    refine cw_seq ?_
    refine cw_region ?_
    refine wl_v (ov_move rfl) rfl rfl rfl ?_
    refine wl_r (or_call (fv := []) (vs := [.slice Ar (bs.length) (cr)]) (cs := []) en13 rfl rfl (call_x6 (fun w hw => DrawGaleSlacks_c w Ar bs.length cr bs ((holds_old oAr) w hw) rfl lAr (by first | assumption | omega | (simp; omega))))) rfl rfl (kt6p rfl (fun A1_11 c1_11 xs_11 A2_11 c2_11 ys_11 h_11 => ?_))
    have hb11 := h_11.2.2
    have hgl := galeV_len xs_11 ys_11
    have hgl2 := galeV_len ys_11 xs_11
    have hs1 : Small xs_11 := h_11.2.2.2.2.1.small (by omega)
    have hs2 : Small ys_11 := h_11.2.2.2.2.2.small (by omega)
    have ht1 := total_len hs1
    have ht2 := total_len hs2
    refine wl_v (ov_move rfl) rfl rfl rfl ?_
    refine wl_v (ov_extract rfl rfl) rfl rfl rfl ?_
    refine wl_v (ov_extract rfl rfl) rfl rfl rfl ?_
    refine wl_v (ov_assign rfl) rfl rfl rfl ?_
    refine wl_v (ov_assign rfl) rfl rfl rfl ?_
    refine wl_nil ?_
    refine ce_then ?_
    refine cw_seq ?_
    refine cw_region ?_
    refine wl_v (ov_move rfl) rfl rfl rfl ?_
    refine wl_v (ov_move rfl) rfl rfl rfl ?_
    refine wl_r (or_call (fv := []) (vs := [.slice A1_11 (xs_11.length) (c1_11), .slice A2_11 (ys_11.length) (c2_11)]) (cs := []) en12 rfl rfl (call_x2 (fun w hw => GaleSlacksI_c w A1_11 xs_11.length c1_11 xs_11 A2_11 ys_11.length c2_11 ys_11 ((holds_row (List.Mem.head _)) w hw) rfl h_11.1 ((holds_row (List.Mem.tail _ (List.Mem.head _))) w hw) rfl h_11.2.1 (by first | assumption | omega | (simp; omega))))) rfl rfl (kt2p rfl (fun A3_16 c3_16 h_16 => ?_))
    refine wl_v (ov_assign rfl) rfl rfl rfl ?_
    refine wl_nil ?_
    refine ce_then ?_
    refine cw_seq ?_
    refine cw_seq ?_
    refine cw_region ?_
    refine wl_v (ov_move rfl) rfl rfl rfl ?_
    refine wl_v (ov_move rfl) rfl rfl rfl ?_
    refine wl_v (ov_move rfl) rfl rfl rfl ?_
    refine wl_r (or_call (fv := []) (vs := [.slice A1_11 (xs_11.length) (c1_11), .slice A2_11 (ys_11.length) (c2_11)]) (cs := []) en15 rfl rfl (call_x2 (fun w hw => GaleSlacksS_c w A1_11 xs_11.length c1_11 xs_11 A2_11 ys_11.length c2_11 ys_11 ((holds_row (List.Mem.tail _ (List.Mem.head _))) w hw) rfl h_11.1 ((holds_row (List.Mem.tail _ (List.Mem.tail _ (List.Mem.head _)))) w hw) rfl h_11.2.1 (by first | assumption | omega | (simp; omega))))) rfl rfl (kt2p rfl (fun A3_20 c3_20 h_20 => ?_))
    refine wl_r (or_call (fv := []) (vs := [.slice A3_16 ((galeV xs_11 ys_11).length) (c3_16), .slice A3_20 ((galeV xs_11 ys_11).length) (c3_20)]) (cs := []) en14 rfl rfl (call_v (fun w hw => equalInts_c w A3_16 ((galeV xs_11 ys_11).length) c3_16 (galeV xs_11 ys_11) A3_20 ((galeV xs_11 ys_11).length) c3_20 (galeV xs_11 ys_11) ((holds_row (List.Mem.tail _ (List.Mem.head _))) w hw) rfl h_16 ((holds_row (List.Mem.head _)) w hw) rfl h_20 (by first | assumption | omega | (simp; omega))))) rfl rfl (kt_if rfl (fun c21 => ?_) (fun c21 => ?_))
    ·
      refine wl_v (ov_not rfl) rfl rfl rfl ?_
      refine wl_v (ov_move rfl) rfl rfl rfl ?_
      refine wl_go rfl rfl ?_
      refine wl_v (ov_move rfl) rfl rfl rfl ?_
      refine wl_go rfl rfl ?_
      refine wl_v (ov_move rfl) rfl rfl rfl ?_
      refine wl_go rfl rfl ?_
      refine wl_r (or_call (fv := []) (vs := [.slice A1_11 (xs_11.length) (c1_11), .slice A2_11 (ys_11.length) (c2_11)]) (cs := []) en10 rfl rfl (call_v (fun w hw => validMI_c w A1_11 xs_11.length c1_11 xs_11 A2_11 ys_11.length c2_11 ys_11 ((holds_row (List.Mem.tail _ (List.Mem.tail _ (List.Mem.head _)))) w hw) rfl h_11.1 ((holds_row (List.Mem.tail _ (List.Mem.tail _ (List.Mem.tail _ (List.Mem.head _))))) w hw) rfl h_11.2.1 (by first | assumption | omega | (simp; omega))))) rfl rfl (kt_if rfl (fun c26 => ?_) (fun c26 => ?_))
      ·
        have hge : galeV xs_11 ys_11 = galeL xs_11 ys_11 := if_pos c26
        have hge2 : galeV ys_11 xs_11 = galeL ys_11 xs_11 := if_pos ⟨c26.2.1, c26.1, c26.2.2.2, c26.2.2.1⟩
        have hgn : (galeV xs_11 ys_11).length = xs_11.length := by rw [hge, galeL_len]
        refine wl_go rfl rfl ?_
        refine wl_v (ov_not rfl) rfl rfl rfl ?_
        refine wl_v (ov_pick_f rfl rfl) rfl rfl rfl ?_
        refine wl_nil ?_
        refine ce_then ?_
        refine cw_false rfl ?_
        refine cw_skip ?_
        refine ce_then ?_
        refine cw_seq ?_
        refine cw_draw mixO [] (.cons (.head) (.cons (.head) (.cons (.head) (.cons (.head) (.nil))))) rfl ?_
        refine wg_takep (i := 0) rfl (ov_move rfl) rfl rfl rfl (by kernel_rfl) (by kernel_rfl) (by kernel_rfl) rfl ?_
        refine wg_takep (i := 1) rfl (ov_move rfl) rfl rfl rfl (by kernel_rfl) (by kernel_rfl) (by kernel_rfl) rfl ?_
        refine wg_takep (i := 2) rfl (ov_len (sliceI_spec sI23) rfl) rfl rfl rfl (by kernel_rfl) (by kernel_rfl) (by kernel_rfl) rfl ?_
        refine wg_takep (i := 3) rfl (ov_sub (r := ((xs_11.length - 1 : Nat) : Int)) rfl rfl (by omega) (by omega)) rfl rfl rfl (by kernel_rfl) (by kernel_rfl) (by kernel_rfl) rfl ?_
        refine wg_take (i := 4) rfl (ov_index (k := xs_11.length - 1) (c := c3_16) sI23 tI3 rfl rfl (some_holds (q := (xs_11.length - 1) * 1) (holds_row (List.Mem.tail _ (List.Mem.head _))) (by rw [cells_length fI_len]; have hlt : xs_11.length - 1 < (galeV xs_11 ys_11).length := (by omega); omega)) (show xs_11.length - 1 < (galeV xs_11 ys_11).length from (by omega))) rfl rfl rfl (by kernel_rfl) (by kernel_rfl) (by kernel_rfl) (by kernel_rfl) ?_
        refine wg_take (i := 5) rfl (ov_load tI3 (holds_row (List.Mem.tail _ (List.Mem.head _))) rfl (get_fI (show xs_11.length - 1 < (galeV xs_11 ys_11).length from (by omega)))) rfl rfl rfl (by kernel_rfl) (by kernel_rfl) (by kernel_rfl) (by kernel_rfl) ?_
        refine wg_takep (i := 6) rfl (ov_move rfl) rfl rfl rfl (by kernel_rfl) (by kernel_rfl) (by kernel_rfl) rfl ?_
        refine wg_takep (i := 8) rfl (ov_move rfl) rfl rfl rfl (by kernel_rfl) (by kernel_rfl) (by kernel_rfl) rfl ?_
        refine wg_one (i := 7) (by kernel_rfl) ?_
        refine go_r rfl rfl rfl rfl (or_call (fv := []) (vs := [.slice A2_11 (ys_11.length) (c2_11)]) (cs := []) en16 rfl rfl (call_v (fun w hw => totalL_c w A2_11 ys_11.length c2_11 ys_11 ((holds_row (List.Mem.tail _ (List.Mem.tail _ (List.Mem.tail _ (List.Mem.head _))))) w hw) rfl h_11.2.1 (by first | assumption | omega | (simp; omega))))) (kt0 rfl ?_)
        refine gk (.cons (.head) (.cons (.head) (.cons (.head) (.cons (.head) (.nil))))) ?_
        refine wg_one (i := 9) (by kernel_rfl) ?_
        refine go_r rfl rfl rfl rfl (or_call (fv := []) (vs := [.slice A1_11 (xs_11.length) (c1_11)]) (cs := []) en16 rfl rfl (call_v (fun w hw => totalL_c w A1_11 xs_11.length c1_11 xs_11 ((holds_row (List.Mem.tail _ (List.Mem.tail _ (List.Mem.head _)))) w hw) rfl h_11.1 (by first | assumption | omega | (simp; omega))))) (kt0 rfl ?_)
        refine gk (.cons (.head) (.cons (.head) (.cons (.head) (.cons (.head) (.nil))))) ?_
        refine wg_takep (i := 10) rfl (ov_sub (r := (total ys_11) - (total xs_11)) rfl rfl rfl (by omega)) rfl rfl rfl (by kernel_rfl) (by kernel_rfl) (by kernel_rfl) rfl ?_
        refine wg_takep_if (i := 11) rfl (ov_eql rfl rfl) rfl rfl rfl (by kernel_rfl) (by kernel_rfl) (by kernel_rfl) rfl (fun c45 => ?_) (fun c45 => ?_)
        ·
          refine wg_takep (i := 12) rfl (ov_move rfl) rfl rfl rfl (by kernel_rfl) (by kernel_rfl) (by kernel_rfl) rfl ?_
          refine wg_take_go (i := 13) rfl rfl rfl (ov_move rfl) rfl (by kernel_rfl) (by kernel_rfl) (by kernel_rfl) (by kernel_rfl) ?_
          refine wg_take_go (i := 15) rfl rfl rfl (ov_move rfl) rfl (by kernel_rfl) (by kernel_rfl) (by kernel_rfl) (by kernel_rfl) ?_
          refine wg_one (i := 14) (by kernel_rfl) ?_
          refine go_rg rfl rfl rfl rfl (or_call (fv := []) (vs := [.slice A1_11 (xs_11.length) (c1_11)]) (cs := []) en16 rfl rfl (call_v (fun w hw => totalL_c w A1_11 xs_11.length c1_11 xs_11 ((holds_row (List.Mem.tail _ (List.Mem.tail _ (List.Mem.head _)))) w hw) rfl h_11.1 (by first | assumption | omega | (simp; omega))))) (kt0 rfl ?_)
          refine gk (.cons (.head) (.cons (.head) (.cons (.head) (.cons (.head) (.nil))))) ?_
          refine wg_one (i := 16) (by kernel_rfl) ?_
          refine go_rg rfl rfl rfl rfl (or_call (fv := []) (vs := [.slice A2_11 (ys_11.length) (c2_11)]) (cs := []) en16 rfl rfl (call_v (fun w hw => totalL_c w A2_11 ys_11.length c2_11 ys_11 ((holds_row (List.Mem.tail _ (List.Mem.tail _ (List.Mem.tail _ (List.Mem.head _))))) w hw) rfl h_11.2.1 (by first | assumption | omega | (simp; omega))))) (kt0 rfl ?_)
          refine gk (.cons (.head) (.cons (.head) (.cons (.head) (.cons (.head) (.nil))))) ?_
          refine wg_take_go_if (i := 17) rfl rfl rfl (ov_neq rfl rfl) rfl (by kernel_rfl) (by kernel_rfl) (by kernel_rfl) (by kernel_rfl) (fun c51 => ?_) (fun c51 => ?_)
          ·
            refine wg_take_go (i := 18) rfl rfl rfl (ov_move rfl) rfl (by kernel_rfl) (by kernel_rfl) (by kernel_rfl) (by kernel_rfl) ?_
            refine wg_take_not (i := 19) rfl rfl rfl rfl rfl (by kernel_rfl) (by kernel_rfl) (by kernel_rfl) (by kernel_rfl) ?_
            refine wg_take_not (i := 20) rfl rfl rfl rfl rfl (by kernel_rfl) (by kernel_rfl) (by kernel_rfl) (by kernel_rfl) ?_
            refine wg_take_not (i := 21) rfl rfl rfl rfl rfl (by kernel_rfl) (by kernel_rfl) (by kernel_rfl) (by kernel_rfl) ?_
            refine wg_take_not (i := 22) rfl rfl rfl rfl rfl (by kernel_rfl) (by kernel_rfl) (by kernel_rfl) (by kernel_rfl) ?_
            refine wg_take_not (i := 23) rfl rfl rfl rfl rfl (by kernel_rfl) (by kernel_rfl) (by kernel_rfl) (by kernel_rfl) ?_
            refine wg_take_not (i := 24) rfl rfl rfl rfl rfl (by kernel_rfl) (by kernel_rfl) (by kernel_rfl) (by kernel_rfl) ?_
            refine wg_take_not (i := 25) rfl rfl rfl rfl rfl (by kernel_rfl) (by kernel_rfl) (by kernel_rfl) (by kernel_rfl) ?_
            refine wg_take_go (i := 26) rfl rfl rfl (ov_pick_t rfl rfl) rfl (by kernel_rfl) (by kernel_rfl) (by kernel_rfl) (by kernel_rfl) ?_
            refine wg_takep (i := 27) rfl (ov_pick_t rfl rfl) rfl rfl rfl (by kernel_rfl) (by kernel_rfl) (by kernel_rfl) rfl ?_
            refine wg_takep (i := 28) rfl (ov_assign rfl) rfl rfl rfl (by kernel_rfl) (by kernel_rfl) (by kernel_rfl) rfl ?_
            refine wg_done (by kernel_rfl) ?_
            refine ce_then ?_
            refine cw_ret ?_
            refine ce_results (v := .bool true) (res1 rfl (rv_t rfl)) (fun w' hw => ?_)
            exact ⟨rfl, (Keep.nil.ss hw).to_new⟩
          ·
            refine wg_take_go (i := 18) rfl rfl rfl (ov_move rfl) rfl (by kernel_rfl) (by kernel_rfl) (by kernel_rfl) (by kernel_rfl) ?_
            refine wg_take_go (i := 19) rfl rfl rfl (ov_move rfl) rfl (by kernel_rfl) (by kernel_rfl) (by kernel_rfl) (by kernel_rfl) ?_
            refine wg_take_go (i := 21) rfl rfl rfl (ov_move rfl) rfl (by kernel_rfl) (by kernel_rfl) (by kernel_rfl) (by kernel_rfl) ?_
            refine wg_take_go (i := 22) rfl rfl rfl (ov_move rfl) rfl (by kernel_rfl) (by kernel_rfl) (by kernel_rfl) (by kernel_rfl) ?_
            refine wg_one (i := 20) (by kernel_rfl) ?_
            refine go_rg rfl rfl rfl rfl (or_call (fv := []) (vs := [.slice A3_16 ((galeV xs_11 ys_11).length) (c3_16)]) (cs := []) en17 rfl rfl (call_v (fun w hw => none_c w A3_16 ((galeV xs_11 ys_11).length) c3_16 (galeV xs_11 ys_11) ((holds_row (List.Mem.tail _ (List.Mem.head _))) w hw) rfl h_16 (by first | assumption | omega | (simp; omega))))) (kt_if rfl (fun c54 => ?_) (fun c54 => ?_))
            ·
              refine gk (.cons (.head) (.cons (.head) (.cons (.head) (.cons (.head) (.nil))))) ?_
              refine wg_one (i := 23) (by kernel_rfl) ?_
              refine go_rg rfl rfl rfl rfl (or_call (fv := []) (vs := [.slice A2_11 (ys_11.length) (c2_11), .slice A1_11 (xs_11.length) (c1_11)]) (cs := []) en12 rfl rfl (call_x2 (fun w hw => GaleSlacksI_c w A2_11 ys_11.length c2_11 ys_11 A1_11 xs_11.length c1_11 xs_11 ((holds_row (List.Mem.tail _ (List.Mem.tail _ (List.Mem.tail _ (List.Mem.head _))))) w hw) rfl h_11.2.1 ((holds_row (List.Mem.tail _ (List.Mem.tail _ (List.Mem.head _)))) w hw) rfl h_11.1 (by first | assumption | omega | (simp; omega))))) (kt2p rfl (fun A3_57 c3_57 h_57 => ?_))
              refine gk (.cons (.tail .head) (.cons (.tail .head) (.cons (.tail .head) (.cons (.tail .head) (.nil))))) ?_
              refine wg_one (i := 24) (by kernel_rfl) ?_
              refine go_rg rfl rfl rfl rfl (or_call (fv := []) (vs := [.slice A3_57 ((galeV ys_11 xs_11).length) (c3_57)]) (cs := []) en17 rfl rfl (call_v (fun w hw => none_c w A3_57 ((galeV ys_11 xs_11).length) c3_57 (galeV ys_11 xs_11) ((holds_row (List.Mem.head _)) w hw) rfl h_57 (by first | assumption | omega | (simp; omega))))) (kt_if rfl (fun c58 => ?_) (fun c58 => ?_))
              ·
                refine gk (.cons (.tail .head) (.cons (.tail .head) (.cons (.tail .head) (.cons (.tail .head) (.nil))))) ?_
                refine wg_take_go (i := 25) rfl rfl rfl (ov_eqlb uI4 rfl rfl) rfl (by kernel_rfl) (by kernel_rfl) (by kernel_rfl) (by kernel_rfl) ?_
                refine wg_take_go (i := 26) rfl rfl rfl (ov_pick_f rfl rfl) rfl (by kernel_rfl) (by kernel_rfl) (by kernel_rfl) (by kernel_rfl) ?_
                refine wg_takep (i := 27) rfl (ov_pick_t rfl rfl) rfl rfl rfl (by kernel_rfl) (by kernel_rfl) (by kernel_rfl) rfl ?_
                refine wg_takep (i := 28) rfl (ov_assign rfl) rfl rfl rfl (by kernel_rfl) (by kernel_rfl) (by kernel_rfl) rfl ?_
                refine wg_done (by kernel_rfl) ?_
                refine ce_then ?_
                refine cw_ret ?_
                refine ce_results (v := .bool true) (res1 rfl (rv_t rfl)) (fun w' hw => ?_)
                exact ⟨rfl, (Keep.nil.ss hw).to_new⟩
              ·
                refine gk (.cons (.tail .head) (.cons (.tail .head) (.cons (.tail .head) (.cons (.tail .head) (.nil))))) ?_
                refine wg_take_go (i := 25) rfl rfl rfl (ov_eqlb uI4 rfl rfl) rfl (by kernel_rfl) (by kernel_rfl) (by kernel_rfl) (by kernel_rfl) ?_
                refine wg_take_go (i := 26) rfl rfl rfl (ov_pick_f rfl rfl) rfl (by kernel_rfl) (by kernel_rfl) (by kernel_rfl) (by kernel_rfl) ?_
                refine wg_takep (i := 27) rfl (ov_pick_t rfl rfl) rfl rfl rfl (by kernel_rfl) (by kernel_rfl) (by kernel_rfl) rfl ?_
                refine wg_takep (i := 28) rfl (ov_assign rfl) rfl rfl rfl (by kernel_rfl) (by kernel_rfl) (by kernel_rfl) rfl ?_
                refine wg_done (by kernel_rfl) ?_
                refine ce_then ?_
                refine cw_ret ?_
                refine ce_results (v := .bool false) (res1 rfl (rv_t rfl)) (fun w' hw => ?_)
                exfalso
                exact c58 (by rw [hge2]; exact gale_turn (fun x hx => (c26.2.2.2 x hx).1) (by omega) (hge ▸ c54))
            ·
              refine gk (.cons (.head) (.cons (.head) (.cons (.head) (.cons (.head) (.nil))))) ?_
              refine wg_one (i := 23) (by kernel_rfl) ?_
              refine go_rg rfl rfl rfl rfl (or_call (fv := []) (vs := [.slice A2_11 (ys_11.length) (c2_11), .slice A1_11 (xs_11.length) (c1_11)]) (cs := []) en12 rfl rfl (call_x2 (fun w hw => GaleSlacksI_c w A2_11 ys_11.length c2_11 ys_11 A1_11 xs_11.length c1_11 xs_11 ((holds_row (List.Mem.tail _ (List.Mem.tail _ (List.Mem.tail _ (List.Mem.head _))))) w hw) rfl h_11.2.1 ((holds_row (List.Mem.tail _ (List.Mem.tail _ (List.Mem.head _)))) w hw) rfl h_11.1 (by first | assumption | omega | (simp; omega))))) (kt2p rfl (fun A3_57 c3_57 h_57 => ?_))
              refine gk (.cons (.tail .head) (.cons (.tail .head) (.cons (.tail .head) (.cons (.tail .head) (.nil))))) ?_
              refine wg_one (i := 24) (by kernel_rfl) ?_
              refine go_rg rfl rfl rfl rfl (or_call (fv := []) (vs := [.slice A3_57 ((galeV ys_11 xs_11).length) (c3_57)]) (cs := []) en17 rfl rfl (call_v (fun w hw => none_c w A3_57 ((galeV ys_11 xs_11).length) c3_57 (galeV ys_11 xs_11) ((holds_row (List.Mem.head _)) w hw) rfl h_57 (by first | assumption | omega | (simp; omega))))) (kt_if rfl (fun c58 => ?_) (fun c58 => ?_))
              ·
                refine gk (.cons (.tail .head) (.cons (.tail .head) (.cons (.tail .head) (.cons (.tail .head) (.nil))))) ?_
                refine wg_take_go (i := 25) rfl rfl rfl (ov_eqlb uI4 rfl rfl) rfl (by kernel_rfl) (by kernel_rfl) (by kernel_rfl) (by kernel_rfl) ?_
                refine wg_take_go (i := 26) rfl rfl rfl (ov_pick_f rfl rfl) rfl (by kernel_rfl) (by kernel_rfl) (by kernel_rfl) (by kernel_rfl) ?_
                refine wg_takep (i := 27) rfl (ov_pick_t rfl rfl) rfl rfl rfl (by kernel_rfl) (by kernel_rfl) (by kernel_rfl) rfl ?_
                refine wg_takep (i := 28) rfl (ov_assign rfl) rfl rfl rfl (by kernel_rfl) (by kernel_rfl) (by kernel_rfl) rfl ?_
                refine wg_done (by kernel_rfl) ?_
                refine ce_then ?_
                refine cw_ret ?_
                refine ce_results (v := .bool false) (res1 rfl (rv_t rfl)) (fun w' hw => ?_)
                exfalso
                exact c54 (by rw [hge]; exact gale_turn (fun x hx => (c26.2.2.1 x hx).1) (by omega) (hge2 ▸ c58))
              ·
                refine gk (.cons (.tail .head) (.cons (.tail .head) (.cons (.tail .head) (.cons (.tail .head) (.nil))))) ?_
                refine wg_take_go (i := 25) rfl rfl rfl (ov_eqlb uI4 rfl rfl) rfl (by kernel_rfl) (by kernel_rfl) (by kernel_rfl) (by kernel_rfl) ?_
                refine wg_take_go (i := 26) rfl rfl rfl (ov_pick_f rfl rfl) rfl (by kernel_rfl) (by kernel_rfl) (by kernel_rfl) (by kernel_rfl) ?_
                refine wg_takep (i := 27) rfl (ov_pick_t rfl rfl) rfl rfl rfl (by kernel_rfl) (by kernel_rfl) (by kernel_rfl) rfl ?_
                refine wg_takep (i := 28) rfl (ov_assign rfl) rfl rfl rfl (by kernel_rfl) (by kernel_rfl) (by kernel_rfl) rfl ?_
                refine wg_done (by kernel_rfl) ?_
                refine ce_then ?_
                refine cw_ret ?_
                refine ce_results (v := .bool true) (res1 rfl (rv_t rfl)) (fun w' hw => ?_)
                exact ⟨rfl, (Keep.nil.ss hw).to_new⟩
        ·
          refine wg_takep (i := 12) rfl (ov_move rfl) rfl rfl rfl (by kernel_rfl) (by kernel_rfl) (by kernel_rfl) rfl ?_
          refine wg_take_not (i := 13) rfl rfl rfl rfl rfl (by kernel_rfl) (by kernel_rfl) (by kernel_rfl) (by kernel_rfl) ?_
          refine wg_take_not (i := 14) rfl rfl rfl rfl rfl (by kernel_rfl) (by kernel_rfl) (by kernel_rfl) (by kernel_rfl) ?_
          refine wg_take_not (i := 15) rfl rfl rfl rfl rfl (by kernel_rfl) (by kernel_rfl) (by kernel_rfl) (by kernel_rfl) ?_
          refine wg_take_not (i := 16) rfl rfl rfl rfl rfl (by kernel_rfl) (by kernel_rfl) (by kernel_rfl) (by kernel_rfl) ?_
          refine wg_take_not (i := 17) rfl rfl rfl rfl rfl (by kernel_rfl) (by kernel_rfl) (by kernel_rfl) (by kernel_rfl) ?_
          refine wg_take_not (i := 18) rfl rfl rfl rfl rfl (by kernel_rfl) (by kernel_rfl) (by kernel_rfl) (by kernel_rfl) ?_
          refine wg_take_notu (i := 19) rfl rfl rfl rfl (by kernel_rfl) (by kernel_rfl) (by kernel_rfl) (by kernel_rfl) ?_
          refine wg_take_notu (i := 20) rfl rfl rfl rfl (by kernel_rfl) (by kernel_rfl) (by kernel_rfl) (by kernel_rfl) ?_
          refine wg_take_notu (i := 21) rfl rfl rfl rfl (by kernel_rfl) (by kernel_rfl) (by kernel_rfl) (by kernel_rfl) ?_
          refine wg_take_notu (i := 22) rfl rfl rfl rfl (by kernel_rfl) (by kernel_rfl) (by kernel_rfl) (by kernel_rfl) ?_
          refine wg_take_notu (i := 23) rfl rfl rfl rfl (by kernel_rfl) (by kernel_rfl) (by kernel_rfl) (by kernel_rfl) ?_
          refine wg_take_notu (i := 24) rfl rfl rfl rfl (by kernel_rfl) (by kernel_rfl) (by kernel_rfl) (by kernel_rfl) ?_
          refine wg_take_notu (i := 25) rfl rfl rfl rfl (by kernel_rfl) (by kernel_rfl) (by kernel_rfl) (by kernel_rfl) ?_
          refine wg_take_not (i := 26) rfl rfl rfl rfl rfl (by kernel_rfl) (by kernel_rfl) (by kernel_rfl) (by kernel_rfl) ?_
          refine wg_takep (i := 27) rfl (ov_pick_f rfl rfl) rfl rfl rfl (by kernel_rfl) (by kernel_rfl) (by kernel_rfl) rfl ?_
          refine wg_takep (i := 28) rfl (ov_assign rfl) rfl rfl rfl (by kernel_rfl) (by kernel_rfl) (by kernel_rfl) rfl ?_
          refine wg_done (by kernel_rfl) ?_
          refine ce_then ?_
          refine cw_ret ?_
          refine ce_results (v := .bool false) (res1 rfl (rv_t rfl)) (fun w' hw => ?_)
          exfalso
          exact c45 (by rw [hge]; exact gale_last c26)
      ·
        refine wl_go rfl rfl ?_
        refine wl_v (ov_not rfl) rfl rfl rfl ?_
        refine wl_v (ov_pick_f rfl rfl) rfl rfl rfl ?_
        refine wl_nil ?_
        refine ce_then ?_
        refine cw_true rfl ?_
        refine cw_seq ?_
        refine cw_region ?_
        refine wl_v (ov_move rfl) rfl rfl rfl ?_
        refine wl_v (ov_move rfl) rfl rfl rfl ?_
        refine wl_v (ov_move rfl) rfl rfl rfl ?_
        refine wl_r (or_call (fv := []) (vs := [.slice A1_11 (xs_11.length) (c1_11), .slice A2_11 (ys_11.length) (c2_11)]) (cs := []) en15 rfl rfl (call_x2 (fun w hw => GaleSlacksS_c w A1_11 xs_11.length c1_11 xs_11 A2_11 ys_11.length c2_11 ys_11 ((holds_row (List.Mem.tail _ (List.Mem.tail _ (List.Mem.head _)))) w hw) rfl h_11.1 ((holds_row (List.Mem.tail _ (List.Mem.tail _ (List.Mem.tail _ (List.Mem.head _))))) w hw) rfl h_11.2.1 (by first | assumption | omega | (simp; omega))))) rfl rfl (kt2p rfl (fun A3_32 c3_32 h_32 => ?_))
        refine wl_r (or_call (fv := []) (vs := [.slice A3_16 ((galeV xs_11 ys_11).length) (c3_16), .slice A3_32 ((galeV xs_11 ys_11).length) (c3_32)]) (cs := []) en14 rfl rfl (call_v (fun w hw => equalInts_c w A3_16 ((galeV xs_11 ys_11).length) c3_16 (galeV xs_11 ys_11) A3_32 ((galeV xs_11 ys_11).length) c3_32 (galeV xs_11 ys_11) ((holds_row (List.Mem.tail _ (List.Mem.tail _ (List.Mem.head _)))) w hw) rfl h_16 ((holds_row (List.Mem.head _)) w hw) rfl h_32 (by first | assumption | omega | (simp; omega))))) rfl rfl (kt_if rfl (fun c33 => ?_) (fun c33 => ?_))
        ·
          refine wl_v (ov_assign rfl) rfl rfl rfl ?_
          refine wl_nil ?_
          refine ce_then ?_
          refine cw_ret ?_
          refine ce_then_ret ?_
          refine ce_results (v := .bool true) (res1 rfl (rv_t rfl)) (fun w' hw => ?_)
          exact ⟨rfl, (Keep.nil.ss hw).to_new⟩
        ·
          exact absurd rfl c33
    ·
      exact absurd rfl c21
end Go.Proofs.Ytholcpgoioaccaa.LFnGaleSlacks
