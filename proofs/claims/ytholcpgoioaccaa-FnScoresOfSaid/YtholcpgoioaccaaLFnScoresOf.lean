/- Walks of functions of the given program: each returns what its Lean function says and leaves the memory that was there as it was. Conditions: those of each theorem. -/
import Derived.Test.YtholcpgoioaccaaSm
import Derived.Test.YtholcpgoioaccaaProg
import Derived.Test.YtholcpgoioaccaaPl
import Derived.Test.YtholcpgoioaccaaPo
import Derived.Test.YtholcpgoioaccaaPd
import Derived.Test.YtholcpgoioaccaaPe
import Derived.Test.YtholcpgoioaccaaPh
import Derived.Test.YtholcpgoioaccaaPm
import Derived.Test.YtholcpgoioaccaaPc
import Derived.Test.YtholcpgoioaccaaPs
import Derived.Test.YtholcpgoioaccaaPt
import Derived.Test.YtholcpgoioaccaaPu
import Derived.Test.YtholcpgoioaccaaPv
import Derived.Test.YtholcpgoioaccaaSo
import Derived.Test.YtholcpgoioaccaaSh
import Derived.Test.YtholcpgoioaccaaT
import Derived.Test.YtholcpgoioaccaaW9
import Derived.Test.YtholcpgoioaccaaW12
import Derived.Test.YtholcpgoioaccaaW34
import Derived.Test.YtholcpgoioaccaaW35
import Derived.KernelRfl
namespace Go.Proofs.Ytholcpgoioaccaa.LFnScoresOf
open Go.Sx Go.RowKit Go.Proofs.Ytholcpgoioaccaa.T Go.Proofs.Ytholcpgoioaccaa.W9 Go.Proofs.Ytholcpgoioaccaa.W12 Go.Proofs.Ytholcpgoioaccaa.W34 Go.Proofs.Ytholcpgoioaccaa.W35
open Go.Plain
set_option linter.unusedVariables false
set_option maxRecDepth 100000 in
theorem FnScoresOf_c (w : World) (Ar : Option Addr) (nr : Nat) (cr : Nat) (bs : List (Nat)) (hAr : At w Ar (cells fY bs)) (eAr : bs.length = nr) (lAr : nr ≤ cr) (hb : ∀ x ∈ bs, x < 256) : Calls Try.prog 8 #[.slice Ar (nr) (cr)] w (Ret fun rv w' => rv = .bool true ∧ New w w' []) := by
  have oAr := hAr.atB
  subst eAr
  refine fn_enter (args := [.slice Ar (bs.length) (cr)]) Try.func8 rfl Try.ntmps8 rfl (SS.start w) ?_
  refine cw_seq ?_
  refine cw_region ?_
  refine wl_v (ov_assign rfl) rfl rfl rfl ?_
  refine wl_nil ?_
  refine ce_then ?_
  refine cw_seq ?_
  refine cw_seq ?_
  refine cw_region ?_
  refine wl_v (ov_move rfl) rfl rfl rfl ?_
  refine wl_v (ov_len (sliceI_spec sI22) rfl) rfl rfl rfl ?_
  refine wl_if (ov_gtr rfl rfl) rfl rfl rfl (fun c10 => ?_) (fun c10 => ?_)
  ·
    refine wl_nil ?_
    refine ce_then ?_
    refine cw_true rfl ?_
    refine cw_seq ?_
    refine cw_region ?_
    refine wl_v (ov_assign rfl) rfl rfl rfl ?_
    refine wl_nil ?_
    refine ce_then ?_
    refine cw_ret ?_
    refine ce_then_ret ?_
    refine ce_results (v := .bool true) (res1 rfl (rv_t rfl)) (fun w' hw => ?_)
    exact ⟨rfl, (Keep.nil.ss hw).to_new⟩
  ·
    refine wl_nil ?_
    refine ce_then ?_
    refine cw_false rfl ?_
    refine cw_skip ?_
    refine ce_then ?_
    refine cw_seq ?_
    refine cw_region ?_
    refine wl_v (ov_move rfl) rfl rfl rfl ?_
    refine wl_r (or_call (fv := []) (vs := [.slice Ar (bs.length) (cr)]) (cs := []) en34 rfl rfl (call_x4 (fun w hw => DrawScoresOf_c w Ar bs.length cr bs ((holds_old oAr) w hw) rfl lAr (by first | assumption | omega | (simp; omega))))) rfl rfl (kt4p rfl (fun A2_12 c2_12 hs2_12 m_12 h_12 => ?_))
    have hms := h_12.2
    have hmz := hms.sz
    have hmb := hms.bd
    have htz := trV_sz m_12
    have hsl := sc_len m_12
    have hsl2 := sc_len (trV m_12)
    refine wl_v (ov_assign rfl) rfl rfl rfl ?_
    refine wl_nil ?_
    refine ce_then ?_
    refine cw_seq ?_
    refine cw_region ?_
    refine wl_v (ov_move rfl) rfl rfl rfl ?_
    refine ct_fact (nest_facts (List.Mem.tail _ (List.Mem.head _))) (fun hnfns_12_1 => ?_)
    have hnfns_12_1l := hnfns_12_1.1
    refine wl_r (or_call (fv := []) (vs := [.slice A2_12 (m_12.length) (c2_12)]) (cs := []) en35 rfl rfl (call_x2 (fun w hw => ScoresI_c w A2_12 m_12.length c2_12 hs2_12 m_12 ((holds_row (List.Mem.head _)) w hw) rfl h_12.1 hnfns_12_1 ((mx_nest (List.Mem.tail _ (List.Mem.head _))) w hw) (by first | assumption | omega | (simp; omega))))) rfl rfl (kt2p rfl (fun A2_14 c2_14 h_14 => ?_))
    refine wl_v (ov_assign rfl) rfl rfl rfl ?_
    refine wl_nil ?_
    refine ce_then ?_
    refine cw_seq ?_
    refine cw_seq ?_
    refine cw_region ?_
    refine wl_v (ov_move rfl) rfl rfl rfl ?_
    refine wl_v (ov_move rfl) rfl rfl rfl ?_
    refine ct_fact (nest_facts (List.Mem.tail _ (List.Mem.tail _ (List.Mem.head _)))) (fun hnfns_12_2 => ?_)
    have hnfns_12_2l := hnfns_12_2.1
    refine wl_r (or_call (fv := []) (vs := [.slice A2_12 (m_12.length) (c2_12)]) (cs := []) en36 rfl rfl (call_x2 (fun w hw => ScoresS_c w A2_12 m_12.length c2_12 hs2_12 m_12 ((holds_row (List.Mem.tail _ (List.Mem.head _))) w hw) rfl h_12.1 hnfns_12_2 ((mx_nest (List.Mem.tail _ (List.Mem.tail _ (List.Mem.head _)))) w hw) (by first | assumption | omega | (simp; omega)) (by first | assumption | omega | (simp; omega))))) rfl rfl (kt2p rfl (fun A2_17 c2_17 h_17 => ?_))
    refine wl_r (or_call (fv := []) (vs := [.slice A2_14 ((scV m_12).length) (c2_14), .slice A2_17 ((scV m_12).length) (c2_17)]) (cs := []) en14 rfl rfl (call_v (fun w hw => equalInts_c w A2_14 ((scV m_12).length) c2_14 (scV m_12) A2_17 ((scV m_12).length) c2_17 (scV m_12) ((holds_row (List.Mem.tail _ (List.Mem.head _))) w hw) rfl h_14 ((holds_row (List.Mem.head _)) w hw) rfl h_17 (by first | assumption | omega | (simp; omega))))) rfl rfl (kt_if rfl (fun c18 => ?_) (fun c18 => ?_))
    ·
      refine wl_v (ov_not rfl) rfl rfl rfl ?_
      refine wl_v (ov_move rfl) rfl rfl rfl ?_
      refine wl_go rfl rfl ?_
      refine wl_v (ov_move rfl) rfl rfl rfl ?_
      refine wl_go rfl rfl ?_
      refine ct_fact (nest_facts (List.Mem.tail _ (List.Mem.tail _ (List.Mem.tail _ (List.Mem.head _))))) (fun hnfns_12_3 => ?_)
      have hnfns_12_3l := hnfns_12_3.1
      refine wl_r (or_call (fv := []) (vs := [.slice A2_12 (m_12.length) (c2_12)]) (cs := []) en37 rfl rfl (call_v (fun w hw => ValidTI_c w A2_12 m_12.length c2_12 hs2_12 m_12 ((holds_row (List.Mem.tail _ (List.Mem.tail _ (List.Mem.head _)))) w hw) rfl h_12.1 hnfns_12_3 ((mx_nest (List.Mem.tail _ (List.Mem.tail _ (List.Mem.tail _ (List.Mem.head _))))) w hw) (by first | assumption | omega | (simp; omega))))) rfl rfl (kt_if rfl (fun c22 => ?_) (fun c22 => ?_))
      ·
        have hT := c22
        have hT0 := hT.1
        obtain ⟨hT1, hT2, hT3, hT4, hT5, hT6⟩ := tour_sc hT
        have hpb := prod_bd (k := m_12.length) (by omega)
        refine wl_go rfl rfl ?_
        refine wl_v (ov_not rfl) rfl rfl rfl ?_
        refine wl_v (ov_pick_f rfl rfl) rfl rfl rfl ?_
        refine wl_nil ?_
        refine ce_then ?_
        refine cw_false rfl ?_
        refine cw_skip ?_
        refine ce_then ?_
        refine cw_seq ?_
        refine cw_region ?_
        refine wl_v (ov_move rfl) rfl rfl rfl ?_
        refine wl_v (ov_len (sliceI_spec sI33) rfl) rfl rfl rfl ?_
        refine wl_v (ov_assign rfl) rfl rfl rfl ?_
        refine wl_nil ?_
        refine ce_then ?_
        refine cw_seq ?_
        refine cw_region ?_
        refine wl_v (ov_move rfl) rfl rfl rfl ?_
        refine ct_fact (nest_facts (List.Mem.tail _ (List.Mem.tail _ (List.Mem.tail _ (List.Mem.head _))))) (fun hnfns_12_4 => ?_)
        have hnfns_12_4l := hnfns_12_4.1
        refine wl_r (or_call (fv := []) (vs := [.slice A2_12 (m_12.length) (c2_12)]) (cs := []) en32 rfl rfl (call_x3 (fun w hw => TransI_c w A2_12 m_12.length c2_12 hs2_12 m_12 ((holds_row (List.Mem.tail _ (List.Mem.tail _ (List.Mem.head _)))) w hw) rfl h_12.1 hnfns_12_4 ((mx_nest (List.Mem.tail _ (List.Mem.tail _ (List.Mem.tail _ (List.Mem.head _))))) w hw) (by first | assumption | omega | (simp; omega))))) rfl rfl (kt3p rfl (fun A2_32 c2_32 hs2_32 h_32 => ?_))
        refine ct_fact (nest_facts (List.Mem.tail _ (List.Mem.head _))) (fun hnfns_32_5 => ?_)
        have hnfns_32_5l := hnfns_32_5.1
        refine wl_r (or_call (fv := []) (vs := [.slice A2_32 ((trV m_12).length) (c2_32)]) (cs := []) en35 rfl rfl (call_x2 (fun w hw => ScoresI_c w A2_32 ((trV m_12).length) c2_32 hs2_32 (trV m_12) ((holds_row (List.Mem.head _)) w hw) rfl h_32.1 hnfns_32_5 ((mx_nest (List.Mem.tail _ (List.Mem.head _))) w hw) (by first | assumption | omega | (simp; omega))))) rfl rfl (kt2p rfl (fun A2_33 c2_33 h_33 => ?_))
        refine wl_v (ov_assign rfl) rfl rfl rfl ?_
        refine wl_nil ?_
        refine ce_then ?_
        refine cw_seq ?_
        refine cw_seq ?_
        refine cw_region ?_
        refine wl_v (ov_assign rfl) rfl rfl rfl ?_
        refine wl_nil ?_
        refine ce_then ?_
        refine cw_block ?_
        refine cw_loop1 (fun (k : Nat) => [(4, .slice A2_14 ((scV m_12).length) (c2_14)), (5, .int .i64 (((m_12.length : Nat) : Int))), (6, .slice A2_33 ((scV (trV m_12)).length) (c2_33)), (7, .int .i64 (((k : Nat) : Int)))]) (fun (k : Nat) => [row 3 1 A2_33 ((scV (trV m_12)).length) (c2_33) (cells fI (scV (trV m_12))), row 23 1 A2_32 ((trV m_12).length) (c2_32) (cells fL hs2_32), nest 3 1 fI hs2_32 (trV m_12), row 3 1 A2_17 ((scV m_12).length) (c2_17) (cells fI (scV m_12)), row 3 1 A2_14 ((scV m_12).length) (c2_14) (cells fI (scV m_12)), row 23 1 A2_12 (m_12.length) (c2_12) (cells fL hs2_12), nest 3 1 fI hs2_12 m_12]) (fun (k : Nat) => True) (fun (k : Nat) => m_12.length - k) 0 trivial (.cons rfl (.cons rfl (.cons rfl (.cons (congrArg (fun z => some (Value.int .i64 z)) (show 0 = ((0 : Nat) : Int) by first | omega | rfl | (simp; done))) (.nil))))) (.cons (.head) (.cons (.head) (.cons (.head) (.cons (.head) (.cons (.head) (.cons (.head) (.cons (.head) (.nil)))))))) ?_
        intro R0 k hk hR0
        refine cw_seq ?_
        refine cw_seq ?_
        refine cw_region ?_
        refine wl_v (ov_move rfl) rfl rfl rfl ?_
        refine wl_v (ov_move rfl) rfl rfl rfl ?_
        refine wl_if (ov_lss rfl rfl) rfl rfl rfl (fun c36 => ?_) (fun c36 => ?_)
        ·
          refine wl_nil ?_
          refine ce_then ?_
          refine cw_true rfl ?_
          refine cw_skip ?_
          refine ce_then ?_
          refine cw_seq ?_
          refine cw_block ?_
          refine cw_seq ?_
          refine cw_draw mixO [] (.cons (.head) (.cons (.head) (.cons (.head) (.cons (.head) (.cons (.head) (.cons (.head) (.cons (.head) (.nil)))))))) rfl ?_
          refine wg_takep (i := 0) rfl (ov_move rfl) rfl rfl rfl (by kernel_rfl) (by kernel_rfl) (by kernel_rfl) rfl ?_
          refine wg_takep (i := 1) rfl (ov_move rfl) rfl rfl rfl (by kernel_rfl) (by kernel_rfl) (by kernel_rfl) rfl ?_
          refine wg_take (i := 2) rfl (ov_index (k := k) (c := c2_33) sI23 tI3 rfl rfl (some_holds (q := k * 1) (holds_row (List.Mem.head _)) (by rw [cells_length fI_len]; have hlt : k < (scV (trV m_12)).length := (by omega); omega)) (show k < (scV (trV m_12)).length from (by omega))) rfl rfl rfl (by kernel_rfl) (by kernel_rfl) (by kernel_rfl) (by kernel_rfl) ?_
          refine wg_take (i := 3) rfl (ov_load tI3 (holds_row (List.Mem.head _)) rfl (get_fI (show k < (scV (trV m_12)).length from (by omega)))) rfl rfl rfl (by kernel_rfl) (by kernel_rfl) (by kernel_rfl) (by kernel_rfl) ?_
          have hk6 := hT6 k (by omega)
          refine wg_takep (i := 4) rfl (ov_move rfl) rfl rfl rfl (by kernel_rfl) (by kernel_rfl) (by kernel_rfl) rfl ?_
          refine wg_takep (i := 5) rfl (ov_move rfl) rfl rfl rfl (by kernel_rfl) (by kernel_rfl) (by kernel_rfl) rfl ?_
          refine wg_take (i := 6) rfl (ov_index (k := k) (c := c2_14) sI23 tI3 rfl rfl (some_holds (q := k * 1) (holds_row (List.Mem.tail _ (List.Mem.tail _ (List.Mem.tail _ (List.Mem.tail _ (List.Mem.head _)))))) (by rw [cells_length fI_len]; have hlt : k < (scV m_12).length := (by omega); omega)) (show k < (scV m_12).length from (by omega))) rfl rfl rfl (by kernel_rfl) (by kernel_rfl) (by kernel_rfl) (by kernel_rfl) ?_
          refine wg_take (i := 7) rfl (ov_load tI3 (holds_row (List.Mem.tail _ (List.Mem.tail _ (List.Mem.tail _ (List.Mem.tail _ (List.Mem.head _)))))) rfl (get_fI (show k < (scV m_12).length from (by omega)))) rfl rfl rfl (by kernel_rfl) (by kernel_rfl) (by kernel_rfl) (by kernel_rfl) ?_
          refine wg_takep (i := 8) rfl (ov_add (r := ((scV (trV m_12)).getD k 0) + ((scV m_12).getD k 0)) rfl rfl rfl (by omega)) rfl rfl rfl (by kernel_rfl) (by kernel_rfl) (by kernel_rfl) rfl ?_
          refine wg_takep (i := 9) rfl (ov_move rfl) rfl rfl rfl (by kernel_rfl) (by kernel_rfl) (by kernel_rfl) rfl ?_
          refine wg_takep (i := 10) rfl (ov_sub (r := ((m_12.length : Nat) : Int) - 1) rfl rfl rfl (by omega)) rfl rfl rfl (by kernel_rfl) (by kernel_rfl) (by kernel_rfl) rfl ?_
          refine wg_takep_if (i := 11) rfl (ov_neq rfl rfl) rfl rfl rfl (by kernel_rfl) (by kernel_rfl) (by kernel_rfl) rfl (fun c50 => ?_) (fun c50 => ?_)
          ·
            exact absurd (by omega) c50
          ·
            refine wg_done (by kernel_rfl) ?_
            refine ce_then ?_
            refine cw_false rfl ?_
            refine cw_skip ?_
            refine ce_block ?_
            refine ce_then ?_
            refine cw_region ?_
            refine wl_v (ov_move rfl) rfl rfl rfl ?_
            refine wl_v (ov_add (r := ((k + 1 : Nat) : Int)) rfl rfl rfl (by omega)) rfl rfl rfl ?_
            refine wl_v (ov_assign rfl) rfl rfl rfl ?_
            refine wl_nil ?_
            exact fun ac_ w_ hs_ => hR0 (k + 1) trivial (by omega) ac_ w_ (hs_.weaken (.cons rfl (.cons rfl (.cons rfl (.cons rfl (.nil))))) (.cons (.head) (.cons (.head) (.cons (.head) (.cons (.head) (.cons (.head) (.cons (.head) (.cons (.head) (.nil)))))))))
        ·
          refine wl_nil ?_
          refine ce_then ?_
          refine cw_false rfl ?_
          refine cw_exit ?_
          refine ce_then_exit ?_
          refine ce_then_exit ?_
          refine ce_hit ?_
          refine ce_then ?_
          refine cw_seq ?_
          refine cw_region ?_
          refine wl_v (ov_move rfl) rfl rfl rfl ?_
          refine wl_r (or_call (fv := []) (vs := [.slice A2_14 ((scV m_12).length) (c2_14)]) (cs := []) en16 rfl rfl (call_v (fun w hw => totalL_c w A2_14 ((scV m_12).length) c2_14 (scV m_12) ((holds_row (List.Mem.tail _ (List.Mem.tail _ (List.Mem.tail _ (List.Mem.tail _ (List.Mem.head _)))))) w hw) rfl h_14 (by first | assumption | omega | (simp; omega))))) rfl rfl (kt0 rfl ?_)
          have hbt := total_len hT5
          have htot := tour_total hT
          rw [← hT1] at htot
          refine wl_v (ov_mul (r := 2 * (total (scV m_12))) rfl rfl rfl (by omega)) rfl rfl rfl ?_
          refine wl_v (ov_move rfl) rfl rfl rfl ?_
          refine wl_v (ov_move rfl) rfl rfl rfl ?_
          refine wl_v (ov_sub (r := ((m_12.length : Nat) : Int) - 1) rfl rfl rfl (by omega)) rfl rfl rfl ?_
          refine wl_v (ov_mul (r := ((m_12.length : Nat) : Int) * (((m_12.length : Nat) : Int) - 1)) rfl rfl rfl (by omega)) rfl rfl rfl ?_
          refine wl_if (ov_eql rfl rfl) rfl rfl rfl (fun c58 => ?_) (fun c58 => ?_)
          ·
            refine wl_v (ov_move rfl) rfl rfl rfl ?_
            refine wl_go rfl rfl ?_
            refine wl_v (ov_move rfl) rfl rfl rfl ?_
            refine wl_go rfl rfl ?_
            refine wl_r (or_call (fv := []) (vs := [.slice A2_14 ((scV m_12).length) (c2_14)]) (cs := []) en21 rfl rfl (call_v (fun w hw => IsScoresI_c w A2_14 ((scV m_12).length) c2_14 (scV m_12) ((holds_row (List.Mem.tail _ (List.Mem.tail _ (List.Mem.tail _ (List.Mem.tail _ (List.Mem.head _)))))) w hw) rfl h_14 (by first | assumption | omega | (simp; omega))))) rfl rfl (kt_if rfl (fun c61 => ?_) (fun c61 => ?_))
            ·
              refine wl_v (ov_pick_t rfl rfl) rfl rfl rfl ?_
              refine wl_v (ov_assign rfl) rfl rfl rfl ?_
              refine wl_nil ?_
              refine ce_then ?_
              refine cw_ret ?_
              refine ce_results (v := .bool true) (res1 rfl (rv_t rfl)) (fun w' hw => ?_)
              exact ⟨rfl, (Keep.nil.ss hw).to_new⟩
            ·
              refine wl_v (ov_pick_t rfl rfl) rfl rfl rfl ?_
              refine wl_v (ov_assign rfl) rfl rfl rfl ?_
              refine wl_nil ?_
              refine ce_then ?_
              refine cw_ret ?_
              refine ce_results (v := .bool false) (res1 rfl (rv_t rfl)) (fun w' hw => ?_)
              exfalso
              exact c61 (by rw [hT1]; exact tour_scores hT)
          ·
            refine wl_v (ov_move rfl) rfl rfl rfl ?_
            refine wl_not rfl rfl rfl rfl rfl rfl ?_
            refine wl_not rfl rfl rfl rfl rfl rfl ?_
            refine wl_v (ov_pick_f rfl rfl) rfl rfl rfl ?_
            refine wl_v (ov_assign rfl) rfl rfl rfl ?_
            refine wl_nil ?_
            refine ce_then ?_
            refine cw_ret ?_
            refine ce_results (v := .bool false) (res1 rfl (rv_t rfl)) (fun w' hw => ?_)
            exfalso
            omega
      ·
        refine wl_go rfl rfl ?_
        refine wl_v (ov_not rfl) rfl rfl rfl ?_
        refine wl_v (ov_pick_f rfl rfl) rfl rfl rfl ?_
        refine wl_nil ?_
        refine ce_then ?_
        refine cw_true rfl ?_
        refine cw_seq ?_
        refine cw_region ?_
        refine wl_v (ov_move rfl) rfl rfl rfl ?_
        refine wl_v (ov_move rfl) rfl rfl rfl ?_
        refine ct_fact (nest_facts (List.Mem.tail _ (List.Mem.tail _ (List.Mem.tail _ (List.Mem.head _))))) (fun hnfns_12_6 => ?_)
        have hnfns_12_6l := hnfns_12_6.1
        refine wl_r (or_call (fv := []) (vs := [.slice A2_12 (m_12.length) (c2_12)]) (cs := []) en36 rfl rfl (call_x2 (fun w hw => ScoresS_c w A2_12 m_12.length c2_12 hs2_12 m_12 ((holds_row (List.Mem.tail _ (List.Mem.tail _ (List.Mem.head _)))) w hw) rfl h_12.1 hnfns_12_6 ((mx_nest (List.Mem.tail _ (List.Mem.tail _ (List.Mem.tail _ (List.Mem.head _))))) w hw) (by first | assumption | omega | (simp; omega)) (by first | assumption | omega | (simp; omega))))) rfl rfl (kt2p rfl (fun A2_27 c2_27 h_27 => ?_))
        refine wl_r (or_call (fv := []) (vs := [.slice A2_14 ((scV m_12).length) (c2_14), .slice A2_27 ((scV m_12).length) (c2_27)]) (cs := []) en14 rfl rfl (call_v (fun w hw => equalInts_c w A2_14 ((scV m_12).length) c2_14 (scV m_12) A2_27 ((scV m_12).length) c2_27 (scV m_12) ((holds_row (List.Mem.tail _ (List.Mem.tail _ (List.Mem.head _)))) w hw) rfl h_14 ((holds_row (List.Mem.head _)) w hw) rfl h_27 (by first | assumption | omega | (simp; omega))))) rfl rfl (kt_if rfl (fun c28 => ?_) (fun c28 => ?_))
        ·
          refine wl_v (ov_assign rfl) rfl rfl rfl ?_
          refine wl_nil ?_
          refine ce_then ?_
          refine cw_ret ?_
          refine ce_then_ret ?_
          refine ce_results (v := .bool true) (res1 rfl (rv_t rfl)) (fun w' hw => ?_)
          exact ⟨rfl, (Keep.nil.ss hw).to_new⟩
        ·
          exact absurd rfl c28
    ·
      exact absurd rfl c18
end Go.Proofs.Ytholcpgoioaccaa.LFnScoresOf
