/- Walks of functions of the given program: each returns what its Lean function says and leaves the memory that was there as it was. Conditions: those of each theorem. -/
import Derived.Test.YtholcpgoioaccaaSm
import Derived.Test.YtholcpgoioaccaaProg
import Derived.Test.YtholcpgoioaccaaPl
import Derived.Test.YtholcpgoioaccaaPo
import Derived.Test.YtholcpgoioaccaaPd
import Derived.Test.YtholcpgoioaccaaPe
import Derived.Test.YtholcpgoioaccaaPh
import Derived.Test.YtholcpgoioaccaaPm
import Derived.Test.YtholcpgoioaccaaPc
import Derived.Test.YtholcpgoioaccaaPs
import Derived.Test.YtholcpgoioaccaaPt
import Derived.Test.YtholcpgoioaccaaPu
import Derived.Test.YtholcpgoioaccaaPv
import Derived.Test.YtholcpgoioaccaaSo
import Derived.Test.YtholcpgoioaccaaSh
import Derived.Test.YtholcpgoioaccaaT
import Derived.Test.YtholcpgoioaccaaW10
import Derived.Test.YtholcpgoioaccaaW12
import Derived.Test.YtholcpgoioaccaaW34
import Derived.Test.YtholcpgoioaccaaW35
import Derived.KernelRfl
namespace Go.Proofs.Ytholcpgoioaccaa.LFnMarginsOf
open Go.Sx Go.RowKit Go.Proofs.Ytholcpgoioaccaa.T Go.Proofs.Ytholcpgoioaccaa.W10 Go.Proofs.Ytholcpgoioaccaa.W12 Go.Proofs.Ytholcpgoioaccaa.W34 Go.Proofs.Ytholcpgoioaccaa.W35
open Go.Plain
set_option linter.unusedVariables false
set_option maxRecDepth 100000 in
theorem FnMarginsOf_c (w : World) (Ar : Option Addr) (nr : Nat) (cr : Nat) (bs : List (Nat)) (hAr : At w Ar (cells fY bs)) (eAr : bs.length = nr) (lAr : nr ≤ cr) (hb : ∀ x ∈ bs, x < 256) : Calls Try.prog 7 #[.slice Ar (nr) (cr)] w (Ret fun rv w' => rv = .bool true ∧ New w w' []) := by
  have oAr := hAr.atB
  subst eAr
  refine fn_enter (args := [.slice Ar (bs.length) (cr)]) Try.func7 rfl Try.ntmps7 rfl (SS.start w) ?_
  refine cw_seq ?_
  refine cw_region ?_
  refine wl_v (ov_assign rfl) rfl rfl rfl ?_
  refine wl_nil ?_
  refine ce_then ?_
  refine cw_seq ?_
  refine cw_seq ?_
  refine cw_region ?_
  refine wl_v (ov_move rfl) rfl rfl rfl ?_
  refine wl_v (ov_len (sliceI_spec sI22) rfl) rfl rfl rfl ?_
  refine wl_if (ov_gtr rfl rfl) rfl rfl rfl (fun c12 => ?_) (fun c12 => ?_)
  ·
    refine wl_nil ?_
    refine ce_then ?_
    refine cw_true rfl ?_
    refine cw_seq ?_
    refine cw_region ?_
    refine wl_v (ov_assign rfl) rfl rfl rfl ?_
    refine wl_nil ?_
    refine ce_then ?_
    refine cw_ret ?_
    refine ce_then_ret ?_
    refine ce_results (v := .bool true) (res1 rfl (rv_t rfl)) (fun w' hw => ?_)
    exact ⟨rfl, (Keep.nil.ss hw).to_new⟩
  ·
    refine wl_nil ?_
    refine ce_then ?_
    refine cw_false rfl ?_
    refine cw_skip ?_
    refine ce_then ?_
    refine cw_seq ?_
    refine cw_region ?_
    refine wl_v (ov_move rfl) rfl rfl rfl ?_
    refine wl_r (or_call (fv := []) (vs := [.slice Ar (bs.length) (cr)]) (cs := []) en29 rfl rfl (call_x4 (fun w hw => DrawMarginsOf_c w Ar bs.length cr bs ((holds_old oAr) w hw) rfl lAr (by first | assumption | omega | (simp; omega))))) rfl rfl (kt4p rfl (fun A2_14 c2_14 hs2_14 m_14 h_14 => ?_))
    have hms := h_14.2
    have hmz := hms.sz
    have htz := trV_sz m_14
    have hml := marg_len m_14
    have hmt := marg_len (trV m_14)
    refine wl_v (ov_assign rfl) rfl rfl rfl ?_
    refine wl_nil ?_
    refine ce_then ?_
    refine cw_seq ?_
    refine cw_region ?_
    refine wl_v (ov_move rfl) rfl rfl rfl ?_
    refine ct_fact (nest_facts (List.Mem.tail _ (List.Mem.head _))) (fun hnfns_14_1 => ?_)
    have hnfns_14_1l := hnfns_14_1.1
    refine wl_r (or_call (fv := []) (vs := [.slice A2_14 (m_14.length) (c2_14)]) (cs := []) en28 rfl rfl (call_x4 (fun w hw => MarginsI_c w A2_14 m_14.length c2_14 hs2_14 m_14 ((holds_row (List.Mem.head _)) w hw) rfl h_14.1 hnfns_14_1 ((mx_nest (List.Mem.tail _ (List.Mem.head _))) w hw) (by first | assumption | omega | (simp; omega))))) rfl rfl (kt4p rfl (fun A2_17 c2_17 A3_17 c3_17 h_17 => ?_))
    refine wl_v (ov_move rfl) rfl rfl rfl ?_
    refine wl_v (ov_extract rfl rfl) rfl rfl rfl ?_
    refine wl_v (ov_extract rfl rfl) rfl rfl rfl ?_
    refine wl_v (ov_assign rfl) rfl rfl rfl ?_
    refine wl_v (ov_assign rfl) rfl rfl rfl ?_
    refine wl_nil ?_
    refine ce_then ?_
    refine cw_seq ?_
    refine cw_region ?_
    refine wl_v (ov_move rfl) rfl rfl rfl ?_
    refine ct_fact (nest_facts (List.Mem.tail _ (List.Mem.tail _ (List.Mem.tail _ (List.Mem.head _))))) (fun hnfns_14_2 => ?_)
    have hnfns_14_2l := hnfns_14_2.1
    refine wl_r (or_call (fv := []) (vs := [.slice A2_14 (m_14.length) (c2_14)]) (cs := []) en30 rfl rfl (call_x4 (fun w hw => MarginsS_c w A2_14 m_14.length c2_14 hs2_14 m_14 ((holds_row (List.Mem.tail _ (List.Mem.tail _ (List.Mem.head _)))) w hw) rfl h_14.1 hnfns_14_2 ((mx_nest (List.Mem.tail _ (List.Mem.tail _ (List.Mem.tail _ (List.Mem.head _))))) w hw) (by first | assumption | omega | (simp; omega))))) rfl rfl (kt4p rfl (fun A2_22 c2_22 A3_22 c3_22 h_22 => ?_))
    refine wl_v (ov_move rfl) rfl rfl rfl ?_
    refine wl_v (ov_extract rfl rfl) rfl rfl rfl ?_
    refine wl_v (ov_extract rfl rfl) rfl rfl rfl ?_
    refine wl_v (ov_assign rfl) rfl rfl rfl ?_
    refine wl_v (ov_assign rfl) rfl rfl rfl ?_
    refine wl_nil ?_
    refine ce_then ?_
    refine cw_seq ?_
    refine cw_seq ?_
    refine cw_region ?_
    refine wl_v (ov_move rfl) rfl rfl rfl ?_
    refine wl_v (ov_move rfl) rfl rfl rfl ?_
    refine wl_r (or_call (fv := []) (vs := [.slice A2_17 ((margV m_14).1.length) (c2_17), .slice A2_22 ((margV m_14).1.length) (c2_22)]) (cs := []) en14 rfl rfl (call_v (fun w hw => equalInts_c w A2_17 ((margV m_14).1.length) c2_17 ((margV m_14).1) A2_22 ((margV m_14).1.length) c2_22 ((margV m_14).1) ((holds_row (List.Mem.tail _ (List.Mem.tail _ (List.Mem.head _)))) w hw) rfl h_17.1 ((holds_row (List.Mem.head _)) w hw) rfl h_22.1 (by first | assumption | omega | (simp; omega))))) rfl rfl (kt_if rfl (fun c27 => ?_) (fun c27 => ?_))
    ·
      refine wl_v (ov_not rfl) rfl rfl rfl ?_
      refine wl_v (ov_move rfl) rfl rfl rfl ?_
      refine wl_go rfl rfl ?_
      refine wl_v (ov_move rfl) rfl rfl rfl ?_
      refine wl_go rfl rfl ?_
      refine wl_v (ov_move rfl) rfl rfl rfl ?_
      refine wl_go rfl rfl ?_
      refine wl_r (or_call (fv := []) (vs := [.slice A3_17 ((margV m_14).2.length) (c3_17), .slice A3_22 ((margV m_14).2.length) (c3_22)]) (cs := []) en14 rfl rfl (call_v (fun w hw => equalInts_c w A3_17 ((margV m_14).2.length) c3_17 ((margV m_14).2) A3_22 ((margV m_14).2.length) c3_22 ((margV m_14).2) ((holds_row (List.Mem.tail _ (List.Mem.tail _ (List.Mem.tail _ (List.Mem.head _))))) w hw) rfl h_17.2 ((holds_row (List.Mem.tail _ (List.Mem.head _))) w hw) rfl h_22.2 (by first | assumption | omega | (simp; omega))))) rfl rfl (kt_if rfl (fun c32 => ?_) (fun c32 => ?_))
      ·
        refine wl_go rfl rfl ?_
        refine wl_v (ov_not rfl) rfl rfl rfl ?_
        refine wl_v (ov_pick_f rfl rfl) rfl rfl rfl ?_
        refine wl_v (ov_move rfl) rfl rfl rfl ?_
        refine wl_go rfl rfl ?_
        refine wl_v (ov_move rfl) rfl rfl rfl ?_
        refine wl_go rfl rfl ?_
        refine ct_fact (nest_facts (List.Mem.tail _ (List.Mem.tail _ (List.Mem.tail _ (List.Mem.tail _ (List.Mem.tail _ (List.Mem.head _))))))) (fun hnfns_14_3 => ?_)
        have hnfns_14_3l := hnfns_14_3.1
        refine wl_r (or_call (fv := []) (vs := [.slice A2_14 (m_14.length) (c2_14)]) (cs := []) en31 rfl rfl (call_v (fun w hw => ValidMatI_c w A2_14 m_14.length c2_14 hs2_14 m_14 ((holds_row (List.Mem.tail _ (List.Mem.tail _ (List.Mem.tail _ (List.Mem.tail _ (List.Mem.head _)))))) w hw) rfl h_14.1 hnfns_14_3 ((mx_nest (List.Mem.tail _ (List.Mem.tail _ (List.Mem.tail _ (List.Mem.tail _ (List.Mem.tail _ (List.Mem.head _))))))) w hw) (by first | assumption | omega | (simp; omega))))) rfl rfl (kt_if rfl (fun c37 => ?_) (fun c37 => ?_))
        ·
          have hM := c37
          have e1 := margV_yes hM
          have e2 := margV_tr hM
          have hvm := matP_margins hM
          have hs1 : Small (margV m_14).1 := by rw [e1]; exact hvm.smallR
          have hs2 : Small (margV m_14).2 := by rw [e1]; exact hvm.smallC
          refine wl_go rfl rfl ?_
          refine wl_v (ov_not rfl) rfl rfl rfl ?_
          refine wl_v (ov_pick_f rfl rfl) rfl rfl rfl ?_
          refine wl_nil ?_
          refine ce_then ?_
          refine cw_false rfl ?_
          refine cw_skip ?_
          refine ce_then ?_
          refine cw_seq ?_
          refine cw_region ?_
          refine wl_v (ov_move rfl) rfl rfl rfl ?_
          refine ct_fact (nest_facts (List.Mem.tail _ (List.Mem.tail _ (List.Mem.tail _ (List.Mem.tail _ (List.Mem.tail _ (List.Mem.head _))))))) (fun hnfns_14_4 => ?_)
          have hnfns_14_4l := hnfns_14_4.1
          refine wl_r (or_call (fv := []) (vs := [.slice A2_14 (m_14.length) (c2_14)]) (cs := []) en32 rfl rfl (call_x3 (fun w hw => TransI_c w A2_14 m_14.length c2_14 hs2_14 m_14 ((holds_row (List.Mem.tail _ (List.Mem.tail _ (List.Mem.tail _ (List.Mem.tail _ (List.Mem.head _)))))) w hw) rfl h_14.1 hnfns_14_4 ((mx_nest (List.Mem.tail _ (List.Mem.tail _ (List.Mem.tail _ (List.Mem.tail _ (List.Mem.tail _ (List.Mem.head _))))))) w hw) (by first | assumption | omega | (simp; omega))))) rfl rfl (kt3p rfl (fun A2_50 c2_50 hs2_50 h_50 => ?_))
          refine ct_fact (nest_facts (List.Mem.tail _ (List.Mem.head _))) (fun hnfns_50_5 => ?_)
          have hnfns_50_5l := hnfns_50_5.1
          refine wl_r (or_call (fv := []) (vs := [.slice A2_50 ((trV m_14).length) (c2_50)]) (cs := []) en28 rfl rfl (call_x4 (fun w hw => MarginsI_c w A2_50 ((trV m_14).length) c2_50 hs2_50 (trV m_14) ((holds_row (List.Mem.head _)) w hw) rfl h_50.1 hnfns_50_5 ((mx_nest (List.Mem.tail _ (List.Mem.head _))) w hw) (by first | assumption | omega | (simp; omega))))) rfl rfl (kt4p rfl (fun A2_51 c2_51 A3_51 c3_51 h_51 => ?_))
          refine wl_v (ov_move rfl) rfl rfl rfl ?_
          refine wl_v (ov_extract rfl rfl) rfl rfl rfl ?_
          refine wl_v (ov_extract rfl rfl) rfl rfl rfl ?_
          refine wl_v (ov_assign rfl) rfl rfl rfl ?_
          refine wl_v (ov_assign rfl) rfl rfl rfl ?_
          refine wl_nil ?_
          refine ce_then ?_
          refine cw_seq ?_
          refine cw_region ?_
          refine wl_v (ov_move rfl) rfl rfl rfl ?_
          refine wl_r (or_call (fv := []) (vs := [.slice A2_17 ((margV m_14).1.length) (c2_17)]) (cs := []) en16 rfl rfl (call_v (fun w hw => totalL_c w A2_17 ((margV m_14).1.length) c2_17 ((margV m_14).1) ((holds_row (List.Mem.tail _ (List.Mem.tail _ (List.Mem.tail _ (List.Mem.tail _ (List.Mem.tail _ (List.Mem.tail _ (List.Mem.head _)))))))) w hw) rfl h_17.1 (by first | assumption | omega | (simp; omega))))) rfl rfl (kt0 rfl ?_)
          refine wl_v (ov_move rfl) rfl rfl rfl ?_
          refine wl_r (or_call (fv := []) (vs := [.slice A3_17 ((margV m_14).2.length) (c3_17)]) (cs := []) en16 rfl rfl (call_v (fun w hw => totalL_c w A3_17 ((margV m_14).2.length) c3_17 ((margV m_14).2) ((holds_row (List.Mem.tail _ (List.Mem.tail _ (List.Mem.tail _ (List.Mem.tail _ (List.Mem.tail _ (List.Mem.tail _ (List.Mem.tail _ (List.Mem.head _))))))))) w hw) rfl h_17.2 (by first | assumption | omega | (simp; omega))))) rfl rfl (kt0 rfl ?_)
          refine wl_if (ov_eql rfl rfl) rfl rfl rfl (fun c58 => ?_) (fun c58 => ?_)
          ·
            refine wl_v (ov_move rfl) rfl rfl rfl ?_
            refine wl_go rfl rfl ?_
            refine wl_v (ov_move rfl) rfl rfl rfl ?_
            refine wl_go rfl rfl ?_
            refine wl_v (ov_move rfl) rfl rfl rfl ?_
            refine wl_go rfl rfl ?_
            refine wl_r (or_call (fv := []) (vs := [.slice A2_17 ((margV m_14).1.length) (c2_17), .slice A3_17 ((margV m_14).2.length) (c3_17)]) (cs := []) en33 rfl rfl (call_v (fun w hw => IsBigrI_c w A2_17 ((margV m_14).1.length) c2_17 ((margV m_14).1) A3_17 ((margV m_14).2.length) c3_17 ((margV m_14).2) ((holds_row (List.Mem.tail _ (List.Mem.tail _ (List.Mem.tail _ (List.Mem.tail _ (List.Mem.tail _ (List.Mem.tail _ (List.Mem.head _)))))))) w hw) rfl h_17.1 ((holds_row (List.Mem.tail _ (List.Mem.tail _ (List.Mem.tail _ (List.Mem.tail _ (List.Mem.tail _ (List.Mem.tail _ (List.Mem.tail _ (List.Mem.head _))))))))) w hw) rfl h_17.2 (by first | assumption | omega | (simp; omega))))) rfl rfl (kt_if rfl (fun c62 => ?_) (fun c62 => ?_))
            ·
              refine wl_v (ov_pick_t rfl rfl) rfl rfl rfl ?_
              refine wl_v (ov_move rfl) rfl rfl rfl ?_
              refine wl_go rfl rfl ?_
              refine wl_v (ov_move rfl) rfl rfl rfl ?_
              refine wl_go rfl rfl ?_
              refine wl_v (ov_move rfl) rfl rfl rfl ?_
              refine wl_go rfl rfl ?_
              refine wl_r (or_call (fv := []) (vs := [.slice A2_51 ((margV (trV m_14)).1.length) (c2_51), .slice A3_17 ((margV m_14).2.length) (c3_17)]) (cs := []) en14 rfl rfl (call_v (fun w hw => equalInts_c w A2_51 ((margV (trV m_14)).1.length) c2_51 ((margV (trV m_14)).1) A3_17 ((margV m_14).2.length) c3_17 ((margV m_14).2) ((holds_row (List.Mem.head _)) w hw) rfl h_51.1 ((holds_row (List.Mem.tail _ (List.Mem.tail _ (List.Mem.tail _ (List.Mem.tail _ (List.Mem.tail _ (List.Mem.tail _ (List.Mem.tail _ (List.Mem.head _))))))))) w hw) rfl h_17.2 (by first | assumption | omega | (simp; omega))))) rfl rfl (kt_if rfl (fun c67 => ?_) (fun c67 => ?_))
              ·
                refine wl_v (ov_pick_t rfl rfl) rfl rfl rfl ?_
                refine wl_v (ov_move rfl) rfl rfl rfl ?_
                refine wl_go rfl rfl ?_
                refine wl_v (ov_move rfl) rfl rfl rfl ?_
                refine wl_go rfl rfl ?_
                refine wl_v (ov_move rfl) rfl rfl rfl ?_
                refine wl_go rfl rfl ?_
                refine wl_r (or_call (fv := []) (vs := [.slice A3_51 ((margV (trV m_14)).2.length) (c3_51), .slice A2_17 ((margV m_14).1.length) (c2_17)]) (cs := []) en14 rfl rfl (call_v (fun w hw => equalInts_c w A3_51 ((margV (trV m_14)).2.length) c3_51 ((margV (trV m_14)).2) A2_17 ((margV m_14).1.length) c2_17 ((margV m_14).1) ((holds_row (List.Mem.tail _ (List.Mem.head _))) w hw) rfl h_51.2 ((holds_row (List.Mem.tail _ (List.Mem.tail _ (List.Mem.tail _ (List.Mem.tail _ (List.Mem.tail _ (List.Mem.tail _ (List.Mem.head _)))))))) w hw) rfl h_17.1 (by first | assumption | omega | (simp; omega))))) rfl rfl (kt_if rfl (fun c72 => ?_) (fun c72 => ?_))
                ·
                  refine wl_v (ov_pick_t rfl rfl) rfl rfl rfl ?_
                  refine wl_v (ov_assign rfl) rfl rfl rfl ?_
                  refine wl_nil ?_
                  refine ce_then ?_
                  refine cw_ret ?_
                  refine ce_results (v := .bool true) (res1 rfl (rv_t rfl)) (fun w' hw => ?_)
                  exact ⟨rfl, (Keep.nil.ss hw).to_new⟩
                ·
                  refine wl_v (ov_pick_t rfl rfl) rfl rfl rfl ?_
                  refine wl_v (ov_assign rfl) rfl rfl rfl ?_
                  refine wl_nil ?_
                  refine ce_then ?_
                  refine cw_ret ?_
                  refine ce_results (v := .bool false) (res1 rfl (rv_t rfl)) (fun w' hw => ?_)
                  exfalso
                  exact c72 (by rw [e1, e2])
              ·
                refine wl_v (ov_pick_t rfl rfl) rfl rfl rfl ?_
                refine wl_v (ov_move rfl) rfl rfl rfl ?_
                refine wl_not rfl rfl rfl rfl rfl rfl ?_
                refine wl_not rfl rfl rfl rfl rfl rfl ?_
                refine wl_not rfl rfl rfl rfl rfl rfl ?_
                refine wl_v (ov_pick_f rfl rfl) rfl rfl rfl ?_
                refine wl_v (ov_assign rfl) rfl rfl rfl ?_
                refine wl_nil ?_
                refine ce_then ?_
                refine cw_ret ?_
                refine ce_results (v := .bool false) (res1 rfl (rv_t rfl)) (fun w' hw => ?_)
                exfalso
                exact c67 (by rw [e1, e2])
            ·
              refine wl_v (ov_pick_t rfl rfl) rfl rfl rfl ?_
              refine wl_v (ov_move rfl) rfl rfl rfl ?_
              refine wl_not rfl rfl rfl rfl rfl rfl ?_
              refine wl_not rfl rfl rfl rfl rfl rfl ?_
              refine wl_not rfl rfl rfl rfl rfl rfl ?_
              refine wl_v (ov_pick_f rfl rfl) rfl rfl rfl ?_
              refine wl_v (ov_move rfl) rfl rfl rfl ?_
              refine wl_not rfl rfl rfl rfl rfl rfl ?_
              refine wl_not rfl rfl rfl rfl rfl rfl ?_
              refine wl_not rfl rfl rfl rfl rfl rfl ?_
              refine wl_v (ov_pick_f rfl rfl) rfl rfl rfl ?_
              refine wl_v (ov_assign rfl) rfl rfl rfl ?_
              refine wl_nil ?_
              refine ce_then ?_
              refine cw_ret ?_
              refine ce_results (v := .bool false) (res1 rfl (rv_t rfl)) (fun w' hw => ?_)
              exfalso
              exact c62 (by rw [e1]; exact matP_bigr hM)
          ·
            refine wl_v (ov_move rfl) rfl rfl rfl ?_
            refine wl_not rfl rfl rfl rfl rfl rfl ?_
            refine wl_not rfl rfl rfl rfl rfl rfl ?_
            refine wl_not rfl rfl rfl rfl rfl rfl ?_
            refine wl_v (ov_pick_f rfl rfl) rfl rfl rfl ?_
            refine wl_v (ov_move rfl) rfl rfl rfl ?_
            refine wl_not rfl rfl rfl rfl rfl rfl ?_
            refine wl_not rfl rfl rfl rfl rfl rfl ?_
            refine wl_not rfl rfl rfl rfl rfl rfl ?_
            refine wl_v (ov_pick_f rfl rfl) rfl rfl rfl ?_
            refine wl_v (ov_move rfl) rfl rfl rfl ?_
            refine wl_not rfl rfl rfl rfl rfl rfl ?_
            refine wl_not rfl rfl rfl rfl rfl rfl ?_
            refine wl_not rfl rfl rfl rfl rfl rfl ?_
            refine wl_v (ov_pick_f rfl rfl) rfl rfl rfl ?_
            refine wl_v (ov_assign rfl) rfl rfl rfl ?_
            refine wl_nil ?_
            refine ce_then ?_
            refine cw_ret ?_
            refine ce_results (v := .bool false) (res1 rfl (rv_t rfl)) (fun w' hw => ?_)
            exfalso
            exact c58 (by rw [e1]; exact total_sums hM)
        ·
          refine wl_go rfl rfl ?_
          refine wl_v (ov_not rfl) rfl rfl rfl ?_
          refine wl_v (ov_pick_f rfl rfl) rfl rfl rfl ?_
          refine wl_nil ?_
          refine ce_then ?_
          refine cw_true rfl ?_
          refine cw_seq ?_
          refine cw_region ?_
          refine wl_v (ov_move rfl) rfl rfl rfl ?_
          refine wl_v (ov_move rfl) rfl rfl rfl ?_
          refine wl_r (or_call (fv := []) (vs := [.slice A2_17 ((margV m_14).1.length) (c2_17), .slice A2_22 ((margV m_14).1.length) (c2_22)]) (cs := []) en14 rfl rfl (call_v (fun w hw => equalInts_c w A2_17 ((margV m_14).1.length) c2_17 ((margV m_14).1) A2_22 ((margV m_14).1.length) c2_22 ((margV m_14).1) ((holds_row (List.Mem.tail _ (List.Mem.tail _ (List.Mem.head _)))) w hw) rfl h_17.1 ((holds_row (List.Mem.head _)) w hw) rfl h_22.1 (by first | assumption | omega | (simp; omega))))) rfl rfl (kt_if rfl (fun c42 => ?_) (fun c42 => ?_))
          ·
            refine wl_v (ov_move rfl) rfl rfl rfl ?_
            refine wl_go rfl rfl ?_
            refine wl_v (ov_move rfl) rfl rfl rfl ?_
            refine wl_go rfl rfl ?_
            refine wl_v (ov_move rfl) rfl rfl rfl ?_
            refine wl_go rfl rfl ?_
            refine wl_r (or_call (fv := []) (vs := [.slice A3_17 ((margV m_14).2.length) (c3_17), .slice A3_22 ((margV m_14).2.length) (c3_22)]) (cs := []) en14 rfl rfl (call_v (fun w hw => equalInts_c w A3_17 ((margV m_14).2.length) c3_17 ((margV m_14).2) A3_22 ((margV m_14).2.length) c3_22 ((margV m_14).2) ((holds_row (List.Mem.tail _ (List.Mem.tail _ (List.Mem.tail _ (List.Mem.head _))))) w hw) rfl h_17.2 ((holds_row (List.Mem.tail _ (List.Mem.head _))) w hw) rfl h_22.2 (by first | assumption | omega | (simp; omega))))) rfl rfl (kt_if rfl (fun c46 => ?_) (fun c46 => ?_))
            ·
              refine wl_v (ov_pick_t rfl rfl) rfl rfl rfl ?_
              refine wl_v (ov_assign rfl) rfl rfl rfl ?_
              refine wl_nil ?_
              refine ce_then ?_
              refine cw_ret ?_
              refine ce_then_ret ?_
              refine ce_results (v := .bool true) (res1 rfl (rv_t rfl)) (fun w' hw => ?_)
              exact ⟨rfl, (Keep.nil.ss hw).to_new⟩
            ·
              exact absurd rfl c46
          ·
            exact absurd rfl c42
      ·
        exact absurd rfl c32
    ·
      exact absurd rfl c27
end Go.Proofs.Ytholcpgoioaccaa.LFnMarginsOf
