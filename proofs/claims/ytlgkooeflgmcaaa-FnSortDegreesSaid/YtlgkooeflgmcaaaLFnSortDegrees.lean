/- Walks of functions of the given program: each returns what its Lean function says and leaves the memory that was there as it was. Conditions: those of each theorem. -/
import Derived.Test.YtlgkooeflgmcaaaSz
import Derived.Test.YtlgkooeflgmcaaaProg
import Derived.Test.YtlgkooeflgmcaaaPl
import Derived.Test.YtlgkooeflgmcaaaPo
import Derived.Test.YtlgkooeflgmcaaaPd
import Derived.Test.YtlgkooeflgmcaaaPe
import Derived.Test.YtlgkooeflgmcaaaPf
import Derived.Test.YtlgkooeflgmcaaaSo
import Derived.Test.YtlgkooeflgmcaaaSh
import Derived.Test.YtlgkooeflgmcaaaT
import Derived.Test.YtlgkooeflgmcaaaW2
import Derived.Test.YtlgkooeflgmcaaaW6
import Derived.Test.YtlgkooeflgmcaaaW11
import Derived.Test.YtlgkooeflgmcaaaW12
import Derived.KernelRfl
namespace Go.Proofs.Ytlgkooeflgmcaaa.LFnSortDegrees
open Go.Sx Go.RowKit Go.Proofs.Ytlgkooeflgmcaaa.T Go.Proofs.Ytlgkooeflgmcaaa.W2 Go.Proofs.Ytlgkooeflgmcaaa.W6 Go.Proofs.Ytlgkooeflgmcaaa.W11 Go.Proofs.Ytlgkooeflgmcaaa.W12
open Go.Plain
set_option linter.unusedVariables false
set_option maxRecDepth 100000 in
theorem FnSortDegrees_c (w : World) (Ar : Option Addr) (nr : Nat) (cr : Nat) (bs : List (Nat)) (hAr : At w Ar (cells fY bs)) (eAr : bs.length = nr) (lAr : nr ≤ cr) (hb : ∀ x ∈ bs, x < 256) : Calls Try.prog 5 #[.slice Ar (nr) (cr)] w (Ret fun rv w' => rv = .bool true ∧ New w w' []) := by
  have oAr := hAr.atB
  subst eAr
  refine fn_enter (args := [.slice Ar (bs.length) (cr)]) Try.func5 rfl Try.ntmps5 rfl (SS.start w) ?_
  refine cw_seq ?_
  refine cw_region ?_
  refine wl_v (ov_assign rfl) rfl rfl rfl ?_
  refine wl_nil ?_
  refine ce_then ?_
  refine cw_seq ?_
  refine cw_seq ?_
  refine cw_region ?_
  refine wl_v (ov_move rfl) rfl rfl rfl ?_
  refine wl_v (ov_len (sliceI_spec sI22) rfl) rfl rfl rfl ?_
  refine wl_if (ov_gtr rfl rfl) rfl rfl rfl (fun c8 => ?_) (fun c8 => ?_)
  ·
    refine wl_nil ?_
    refine ce_then ?_
    refine cw_true rfl ?_
    refine cw_seq ?_
    refine cw_region ?_
    refine wl_v (ov_assign rfl) rfl rfl rfl ?_
    refine wl_nil ?_
    refine ce_then ?_
    refine cw_ret ?_
    refine ce_then_ret ?_
    refine ce_results (v := .bool true) (res1 rfl (rv_t rfl)) (fun w' hw => ?_)
    exact ⟨rfl, (Keep.nil.ss hw).to_new⟩
  ·
    refine wl_nil ?_
    refine ce_then ?_
    refine cw_false rfl ?_
    refine cw_skip ?_
    refine ce_then ?_
    refine cw_seq ?_
    refine cw_region ?_
    refine wl_v (ov_move rfl) rfl rfl rfl ?_
    refine wl_r (or_call (fv := []) (vs := [.slice Ar (bs.length) (cr)]) (cs := []) en19 rfl rfl (call_x3 (fun w hw => DrawSortDegrees_c w Ar bs.length cr bs ((holds_old oAr) w hw) rfl lAr (by first | assumption | omega | (simp; omega))))) rfl rfl (kt3p rfl (fun A2_10 c2_10 ys_10 h_10 => ?_))
    have hsl := sortedL_len ys_10
    refine wl_v (ov_assign rfl) rfl rfl rfl ?_
    refine wl_nil ?_
    refine ce_then ?_
    refine cw_seq ?_
    refine cw_region ?_
    refine wl_v (ov_move rfl) rfl rfl rfl ?_
    refine wl_r (or_call (fv := []) (vs := [.slice A2_10 (ys_10.length) (c2_10)]) (cs := []) en18 rfl rfl (call_x3 (fun w hw => SortDegreesI_c w A2_10 ys_10.length c2_10 ys_10 ((holds_row (List.Mem.head _)) w hw) rfl h_10.1 (by first | assumption | omega | (simp; omega))))) rfl rfl (kt3p rfl (fun A2_12 c2_12 c3_12 h_12 => ?_))
    refine wl_v (ov_assign rfl) rfl rfl rfl ?_
    refine wl_nil ?_
    refine ce_then ?_
    refine cw_seq ?_
    refine cw_seq ?_
    refine cw_region ?_
    refine wl_v (ov_move rfl) rfl rfl rfl ?_
    refine wl_v (ov_move rfl) rfl rfl rfl ?_
    refine wl_r (or_call (fv := []) (vs := [.slice A2_10 (ys_10.length) (c2_10)]) (cs := []) en21 rfl rfl (call_x2 (fun w hw => SortDegreesS_c w A2_10 ys_10.length c2_10 ys_10 ((holds_row (List.Mem.tail _ (List.Mem.head _))) w hw) rfl h_10.1 (by first | assumption | omega | (simp; omega))))) rfl rfl (kt2p rfl (fun A2_15 c2_15 h_15 => ?_))
    refine wl_r (or_call (fv := []) (vs := [.slice A2_12 ((sortedL ys_10).length) (c2_12), .slice A2_15 ((sortedL ys_10).length) (c2_15)]) (cs := []) en20 rfl rfl (call_v (fun w hw => equalInts_c w A2_12 ((sortedL ys_10).length) c2_12 (sortedL ys_10) A2_15 ((sortedL ys_10).length) c2_15 (sortedL ys_10) ((holds_row (List.Mem.tail _ (List.Mem.head _))) w hw) rfl h_12 ((holds_row (List.Mem.head _)) w hw) rfl h_15 (by first | assumption | omega | (simp; omega))))) rfl rfl (kt_if rfl (fun c16 => ?_) (fun c16 => ?_))
    ·
      refine wl_v (ov_not rfl) rfl rfl rfl ?_
      refine wl_v (ov_move rfl) rfl rfl rfl ?_
      refine wl_go rfl rfl ?_
      refine wl_v (ov_move rfl) rfl rfl rfl ?_
      refine wl_go rfl rfl ?_
      refine wl_r (or_call (fv := []) (vs := [.slice A2_10 (ys_10.length) (c2_10)]) (cs := []) en12 rfl rfl (call_v (fun w hw => validI_c w A2_10 ys_10.length c2_10 ys_10 ((holds_row (List.Mem.tail _ (List.Mem.tail _ (List.Mem.head _)))) w hw) rfl h_10.1 (by first | assumption | omega | (simp; omega))))) rfl rfl (kt_if rfl (fun c20 => ?_) (fun c20 => ?_))
      ·
        have hV := c20
        have hse : sortedL ys_10 = fall ys_10 := if_pos hV
        have hsd : (sortedL ys_10).Pairwise (· ≥ ·) := by rw [hse]; exact fall_sorted _
        have hsn : (sortedL ys_10).length = ys_10.length := by rw [hse, fall_length]
        have htt : total (sortedL ys_10) = total ys_10 := by rw [hse, total_fall]
        refine wl_go rfl rfl ?_
        refine wl_v (ov_not rfl) rfl rfl rfl ?_
        refine wl_v (ov_pick_f rfl rfl) rfl rfl rfl ?_
        refine wl_nil ?_
        refine ce_then ?_
        refine cw_false rfl ?_
        refine cw_skip ?_
        refine ce_then ?_
        refine cw_seq ?_
        refine cw_seq ?_
        refine cw_region ?_
        refine wl_v (ov_assign rfl) rfl rfl rfl ?_
        refine wl_nil ?_
        refine ce_then ?_
        refine cw_block ?_
        refine cw_loop1 (fun (k : Nat) => [(3, .slice A2_10 (ys_10.length) (c2_10)), (4, .slice A2_12 ((sortedL ys_10).length) (c2_12)), (5, .int .i64 (((k + 1 : Nat) : Int)))]) (fun (k : Nat) => [row 3 1 A2_15 ((sortedL ys_10).length) (c2_15) (cells fI (sortedL ys_10)), row 3 1 A2_12 ((sortedL ys_10).length) (c3_12) (cells fI (sortedL ys_10)), row 3 1 A2_10 (ys_10.length) (c2_10) (cells fI ys_10)]) (fun (k : Nat) => True) (fun (k : Nat) => (sortedL ys_10).length - k) 0 trivial (.cons rfl (.cons rfl (.cons (congrArg (fun z => some (Value.int .i64 z)) (show 1 = ((0 + 1 : Nat) : Int) by first | omega | rfl | (simp; done))) (.nil)))) (.cons (.head) (.cons (.head) (.cons (.head) (.nil)))) ?_
        intro R0 k hk hR0
        refine cw_seq ?_
        refine cw_seq ?_
        refine cw_region ?_
        refine wl_v (ov_move rfl) rfl rfl rfl ?_
        refine wl_v (ov_move rfl) rfl rfl rfl ?_
        refine wl_v (ov_len (sliceI_spec sI23) rfl) rfl rfl rfl ?_
        refine wl_if (ov_lss rfl rfl) rfl rfl rfl (fun c30 => ?_) (fun c30 => ?_)
        ·
          refine wl_nil ?_
          refine ce_then ?_
          refine cw_true rfl ?_
          refine cw_skip ?_
          refine ce_then ?_
          refine cw_seq ?_
          refine cw_block ?_
          refine cw_seq ?_
          refine cw_draw mixO [] (.cons (.head) (.cons (.head) (.cons (.head) (.nil)))) rfl ?_
          refine wg_takep (i := 0) rfl (ov_move rfl) rfl rfl rfl (by kernel_rfl) (by kernel_rfl) (by kernel_rfl) rfl ?_
          refine wg_takep (i := 1) rfl (ov_move rfl) rfl rfl rfl (by kernel_rfl) (by kernel_rfl) (by kernel_rfl) rfl ?_
          refine wg_takep (i := 2) rfl (ov_sub (r := ((k : Nat) : Int)) rfl rfl (by omega) (by omega)) rfl rfl rfl (by kernel_rfl) (by kernel_rfl) (by kernel_rfl) rfl ?_
          refine wg_take (i := 3) rfl (ov_index (k := k) (c := c2_12) sI23 tI3 rfl rfl (some_holds (q := k * 1) (holds_row (List.Mem.tail _ (List.Mem.head _))) (by rw [cells_length fI_len]; have hlt : k < (sortedL ys_10).length := (by omega); omega)) (show k < (sortedL ys_10).length from (by omega))) rfl rfl rfl (by kernel_rfl) (by kernel_rfl) (by kernel_rfl) (by kernel_rfl) ?_
          refine wg_take (i := 4) rfl (ov_load tI3 (holds_row (List.Mem.tail _ (List.Mem.head _))) rfl (get_fI (show k < (sortedL ys_10).length from (by omega)))) rfl rfl rfl (by kernel_rfl) (by kernel_rfl) (by kernel_rfl) (by kernel_rfl) ?_
          refine wg_takep (i := 5) rfl (ov_move rfl) rfl rfl rfl (by kernel_rfl) (by kernel_rfl) (by kernel_rfl) rfl ?_
          refine wg_takep (i := 6) rfl (ov_move rfl) rfl rfl rfl (by kernel_rfl) (by kernel_rfl) (by kernel_rfl) rfl ?_
          refine wg_take (i := 7) rfl (ov_index (k := k + 1) (c := c2_12) sI23 tI3 rfl rfl (some_holds (q := (k + 1) * 1) (holds_row (List.Mem.tail _ (List.Mem.head _))) (by rw [cells_length fI_len]; have hlt : k + 1 < (sortedL ys_10).length := (by omega); omega)) (show k + 1 < (sortedL ys_10).length from (by omega))) rfl rfl rfl (by kernel_rfl) (by kernel_rfl) (by kernel_rfl) (by kernel_rfl) ?_
          refine wg_take (i := 8) rfl (ov_load tI3 (holds_row (List.Mem.tail _ (List.Mem.head _))) rfl (get_fI (show k + 1 < (sortedL ys_10).length from (by omega)))) rfl rfl rfl (by kernel_rfl) (by kernel_rfl) (by kernel_rfl) (by kernel_rfl) ?_
          refine wg_takep_if (i := 9) rfl (ov_lss rfl rfl) rfl rfl rfl (by kernel_rfl) (by kernel_rfl) (by kernel_rfl) rfl (fun c42 => ?_) (fun c42 => ?_)
          ·
            exact absurd (sorted_get (hsd) (i := k) (j := k + 1) (by omega) (by omega)) (by omega)
          ·
            refine wg_done (by kernel_rfl) ?_
            refine ce_then ?_
            refine cw_false rfl ?_
            refine cw_skip ?_
            refine ce_block ?_
            refine ce_then ?_
            refine cw_region ?_
            refine wl_v (ov_move rfl) rfl rfl rfl ?_
            refine wl_v (ov_add (r := (((k + 1) + 1 : Nat) : Int)) rfl rfl rfl (by omega)) rfl rfl rfl ?_
            refine wl_v (ov_assign rfl) rfl rfl rfl ?_
            refine wl_nil ?_
            exact fun ac_ w_ hs_ => hR0 (k + 1) trivial (by omega) ac_ w_ (hs_.weaken (.cons rfl (.cons rfl (.cons rfl (.nil)))) (.cons (.head) (.cons (.head) (.cons (.head) (.nil)))))
        ·
          refine wl_nil ?_
          refine ce_then ?_
          refine cw_false rfl ?_
          refine cw_exit ?_
          refine ce_then_exit ?_
          refine ce_then_exit ?_
          refine ce_hit ?_
          refine ce_then ?_
          refine cw_seq ?_
          refine cw_region ?_
          refine wl_v (ov_move rfl) rfl rfl rfl ?_
          refine wl_v (ov_len (sliceI_spec sI23) rfl) rfl rfl rfl ?_
          refine wl_v (ov_move rfl) rfl rfl rfl ?_
          refine wl_v (ov_len (sliceI_spec sI23) rfl) rfl rfl rfl ?_
          refine wl_if (ov_eql rfl rfl) rfl rfl rfl (fun c47 => ?_) (fun c47 => ?_)
          ·
            refine wl_v (ov_move rfl) rfl rfl rfl ?_
            refine wl_go rfl rfl ?_
            refine wl_v (ov_move rfl) rfl rfl rfl ?_
            refine wl_go rfl rfl ?_
            refine wl_r (or_call (fv := []) (vs := [.slice A2_12 ((sortedL ys_10).length) (c2_12)]) (cs := []) en22 rfl rfl (call_v (fun w hw => totalL_c w A2_12 ((sortedL ys_10).length) c2_12 (sortedL ys_10) ((holds_row (List.Mem.tail _ (List.Mem.head _))) w hw) rfl h_12 (sortedL_valid hV).small))) rfl rfl (kt0 rfl ?_)
            refine wl_go rfl rfl ?_
            refine wl_v (ov_move rfl) rfl rfl rfl ?_
            refine wl_go rfl rfl ?_
            refine wl_r (or_call (fv := []) (vs := [.slice A2_10 (ys_10.length) (c2_10)]) (cs := []) en22 rfl rfl (call_v (fun w hw => totalL_c w A2_10 ys_10.length c2_10 ys_10 ((holds_row (List.Mem.tail _ (List.Mem.tail _ (List.Mem.head _)))) w hw) rfl h_10.1 hV.small))) rfl rfl (kt0 rfl ?_)
            refine wl_go rfl rfl ?_
            refine wl_if (ov_eql rfl rfl) rfl rfl rfl (fun c53 => ?_) (fun c53 => ?_)
            ·
              refine wl_v (ov_pick_t rfl rfl) rfl rfl rfl ?_
              refine wl_v (ov_move rfl) rfl rfl rfl ?_
              refine wl_go rfl rfl ?_
              refine wl_v (ov_move rfl) rfl rfl rfl ?_
              refine wl_go rfl rfl ?_
              refine wl_r (or_call (fv := []) (vs := [.slice A2_12 ((sortedL ys_10).length) (c2_12)]) (cs := []) en18 rfl rfl (call_x3 (fun w hw => SortDegreesI_c w A2_12 ((sortedL ys_10).length) c2_12 (sortedL ys_10) ((holds_row (List.Mem.tail _ (List.Mem.head _))) w hw) rfl h_12 (by omega)))) rfl rfl (kt3p rfl (fun A2_57 c2_57 c3_57 h_57 => ?_))
              refine wl_go rfl rfl ?_
              refine wl_v (ov_move rfl) rfl rfl rfl ?_
              refine wl_go rfl rfl ?_
              refine wl_r (or_call (fv := []) (vs := [.slice A2_57 ((sortedL (sortedL ys_10)).length) (c2_57), .slice A2_12 ((sortedL ys_10).length) (c2_12)]) (cs := []) en20 rfl rfl (call_v (fun w hw => equalInts_c w A2_57 ((sortedL (sortedL ys_10)).length) c2_57 (sortedL (sortedL ys_10)) A2_12 ((sortedL ys_10).length) c2_12 (sortedL ys_10) ((holds_row (List.Mem.head _)) w hw) rfl h_57 ((holds_row (List.Mem.tail _ (List.Mem.tail _ (List.Mem.head _)))) w hw) rfl h_12 (by rw [sortedL_idem]; omega)))) rfl rfl (kt_if rfl (fun c59 => ?_) (fun c59 => ?_))
              ·
                refine wl_v (ov_pick_t rfl rfl) rfl rfl rfl ?_
                refine wl_v (ov_move rfl) rfl rfl rfl ?_
                refine wl_go rfl rfl ?_
                refine wl_v (ov_move rfl) rfl rfl rfl ?_
                refine wl_go rfl rfl ?_
                refine wl_r (or_call (fv := []) (vs := [.slice A2_12 ((sortedL ys_10).length) (c2_12)]) (cs := []) en23 rfl rfl (call_x2 (fun w hw => ConjugateOfI_c w A2_12 ((sortedL ys_10).length) c2_12 (sortedL ys_10) ((holds_row (List.Mem.tail _ (List.Mem.tail _ (List.Mem.head _)))) w hw) rfl h_12 (by omega)))) rfl rfl (kt2p rfl (fun A2_63 c2_63 h_63 => ?_))
                refine wl_go rfl rfl ?_
                refine wl_v (ov_move rfl) rfl rfl rfl ?_
                refine wl_go rfl rfl ?_
                refine wl_r (or_call (fv := []) (vs := [.slice A2_10 (ys_10.length) (c2_10)]) (cs := []) en23 rfl rfl (call_x2 (fun w hw => ConjugateOfI_c w A2_10 ys_10.length c2_10 ys_10 ((holds_row (List.Mem.tail _ (List.Mem.tail _ (List.Mem.tail _ (List.Mem.tail _ (List.Mem.head _)))))) w hw) rfl h_10.1 (by first | assumption | omega | (simp; omega))))) rfl rfl (kt2p rfl (fun A2_65 c2_65 h_65 => ?_))
                refine wl_go rfl rfl ?_
                refine wl_r (or_call (fv := []) (vs := [.slice A2_63 ((conjV (sortedL ys_10)).length) (c2_63), .slice A2_65 ((conjV ys_10).length) (c2_65)]) (cs := []) en20 rfl rfl (call_v (fun w hw => equalInts_c w A2_63 ((conjV (sortedL ys_10)).length) c2_63 (conjV (sortedL ys_10)) A2_65 ((conjV ys_10).length) c2_65 (conjV ys_10) ((holds_row (List.Mem.tail _ (List.Mem.head _))) w hw) rfl h_63 ((holds_row (List.Mem.head _)) w hw) rfl h_65 (by have := conjV_len (sortedL ys_10); omega)))) rfl rfl (kt_if rfl (fun c66 => ?_) (fun c66 => ?_))
                ·
                  refine wl_v (ov_pick_t rfl rfl) rfl rfl rfl ?_
                  refine wl_v (ov_assign rfl) rfl rfl rfl ?_
                  refine wl_nil ?_
                  refine ce_then ?_
                  refine cw_ret ?_
                  refine ce_results (v := .bool true) (res1 rfl (rv_t rfl)) (fun w' hw => ?_)
                  exact ⟨rfl, (Keep.nil.ss hw).to_new⟩
                ·
                  refine wl_v (ov_pick_t rfl rfl) rfl rfl rfl ?_
                  refine wl_v (ov_assign rfl) rfl rfl rfl ?_
                  refine wl_nil ?_
                  refine ce_then ?_
                  refine cw_ret ?_
                  refine ce_results (v := .bool false) (res1 rfl (rv_t rfl)) (fun w' hw => ?_)
                  exfalso
                  exact c66 (conj_sorted hV)
              ·
                refine wl_v (ov_pick_t rfl rfl) rfl rfl rfl ?_
                refine wl_v (ov_move rfl) rfl rfl rfl ?_
                refine wl_not rfl rfl rfl rfl rfl rfl ?_
                refine wl_not rfl rfl rfl rfl rfl rfl ?_
                refine wl_not rfl rfl rfl rfl rfl rfl ?_
                refine wl_not rfl rfl rfl rfl rfl rfl ?_
                refine wl_not rfl rfl rfl rfl rfl rfl ?_
                refine wl_v (ov_pick_f rfl rfl) rfl rfl rfl ?_
                refine wl_v (ov_assign rfl) rfl rfl rfl ?_
                refine wl_nil ?_
                refine ce_then ?_
                refine cw_ret ?_
                refine ce_results (v := .bool false) (res1 rfl (rv_t rfl)) (fun w' hw => ?_)
                exfalso
                exact c59 (sortedL_idem _)
            ·
              refine wl_v (ov_pick_t rfl rfl) rfl rfl rfl ?_
              refine wl_v (ov_move rfl) rfl rfl rfl ?_
              refine wl_not rfl rfl rfl rfl rfl rfl ?_
              refine wl_not rfl rfl rfl rfl rfl rfl ?_
              refine wl_not rfl rfl rfl rfl rfl rfl ?_
              refine wl_not rfl rfl rfl rfl rfl rfl ?_
              refine wl_v (ov_pick_f rfl rfl) rfl rfl rfl ?_
              refine wl_v (ov_move rfl) rfl rfl rfl ?_
              refine wl_not rfl rfl rfl rfl rfl rfl ?_
              refine wl_not rfl rfl rfl rfl rfl rfl ?_
              refine wl_not rfl rfl rfl rfl rfl rfl ?_
              refine wl_not rfl rfl rfl rfl rfl rfl ?_
              refine wl_not rfl rfl rfl rfl rfl rfl ?_
              refine wl_v (ov_pick_f rfl rfl) rfl rfl rfl ?_
              refine wl_v (ov_assign rfl) rfl rfl rfl ?_
              refine wl_nil ?_
              refine ce_then ?_
              refine cw_ret ?_
              refine ce_results (v := .bool false) (res1 rfl (rv_t rfl)) (fun w' hw => ?_)
              exfalso
              exact c53 htt
          ·
            refine wl_v (ov_move rfl) rfl rfl rfl ?_
            refine wl_not rfl rfl rfl rfl rfl rfl ?_
            refine wl_not rfl rfl rfl rfl rfl rfl ?_
            refine wl_not rfl rfl rfl rfl rfl rfl ?_
            refine wl_not rfl rfl rfl rfl rfl rfl ?_
            refine wl_not rfl rfl rfl rfl rfl rfl ?_
            refine wl_v (ov_pick_f rfl rfl) rfl rfl rfl ?_
            refine wl_v (ov_move rfl) rfl rfl rfl ?_
            refine wl_not rfl rfl rfl rfl rfl rfl ?_
            refine wl_not rfl rfl rfl rfl rfl rfl ?_
            refine wl_not rfl rfl rfl rfl rfl rfl ?_
            refine wl_not rfl rfl rfl rfl rfl rfl ?_
            refine wl_v (ov_pick_f rfl rfl) rfl rfl rfl ?_
            refine wl_v (ov_move rfl) rfl rfl rfl ?_
            refine wl_not rfl rfl rfl rfl rfl rfl ?_
            refine wl_not rfl rfl rfl rfl rfl rfl ?_
            refine wl_not rfl rfl rfl rfl rfl rfl ?_
            refine wl_not rfl rfl rfl rfl rfl rfl ?_
            refine wl_not rfl rfl rfl rfl rfl rfl ?_
            refine wl_v (ov_pick_f rfl rfl) rfl rfl rfl ?_
            refine wl_v (ov_assign rfl) rfl rfl rfl ?_
            refine wl_nil ?_
            refine ce_then ?_
            refine cw_ret ?_
            refine ce_results (v := .bool false) (res1 rfl (rv_t rfl)) (fun w' hw => ?_)
            exfalso
            omega
      ·
        refine wl_go rfl rfl ?_
        refine wl_v (ov_not rfl) rfl rfl rfl ?_
        refine wl_v (ov_pick_f rfl rfl) rfl rfl rfl ?_
        refine wl_nil ?_
        refine ce_then ?_
        refine cw_true rfl ?_
        refine cw_seq ?_
        refine cw_region ?_
        refine wl_v (ov_move rfl) rfl rfl rfl ?_
        refine wl_v (ov_move rfl) rfl rfl rfl ?_
        refine wl_r (or_call (fv := []) (vs := [.slice A2_10 (ys_10.length) (c2_10)]) (cs := []) en21 rfl rfl (call_x2 (fun w hw => SortDegreesS_c w A2_10 ys_10.length c2_10 ys_10 ((holds_row (List.Mem.tail _ (List.Mem.tail _ (List.Mem.head _)))) w hw) rfl h_10.1 (by first | assumption | omega | (simp; omega))))) rfl rfl (kt2p rfl (fun A2_25 c2_25 h_25 => ?_))
        refine wl_r (or_call (fv := []) (vs := [.slice A2_12 ((sortedL ys_10).length) (c2_12), .slice A2_25 ((sortedL ys_10).length) (c2_25)]) (cs := []) en20 rfl rfl (call_v (fun w hw => equalInts_c w A2_12 ((sortedL ys_10).length) c2_12 (sortedL ys_10) A2_25 ((sortedL ys_10).length) c2_25 (sortedL ys_10) ((holds_row (List.Mem.tail _ (List.Mem.tail _ (List.Mem.head _)))) w hw) rfl h_12 ((holds_row (List.Mem.head _)) w hw) rfl h_25 (by first | assumption | omega | (simp; omega))))) rfl rfl (kt_if rfl (fun c26 => ?_) (fun c26 => ?_))
        ·
          refine wl_v (ov_assign rfl) rfl rfl rfl ?_
          refine wl_nil ?_
          refine ce_then ?_
          refine cw_ret ?_
          refine ce_then_ret ?_
          refine ce_results (v := .bool true) (res1 rfl (rv_t rfl)) (fun w' hw => ?_)
          exact ⟨rfl, (Keep.nil.ss hw).to_new⟩
        ·
          exact absurd rfl c26
    ·
      exact absurd rfl c16
end Go.Proofs.Ytlgkooeflgmcaaa.LFnSortDegrees
