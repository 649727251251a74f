/- Walks of functions of the given program: each returns what its Lean function says and leaves the memory that was there as it was. Conditions: those of each theorem. -/
import Derived.Test.YthbfgkeoojghoaaSm
import Derived.Test.YthbfgkeoojghoaaProg
import Derived.Test.YthbfgkeoojghoaaPl
import Derived.Test.YthbfgkeoojghoaaPo
import Derived.Test.YthbfgkeoojghoaaPd
import Derived.Test.YthbfgkeoojghoaaPe
import Derived.Test.YthbfgkeoojghoaaPh
import Derived.Test.YthbfgkeoojghoaaPm
import Derived.Test.YthbfgkeoojghoaaPc
import Derived.Test.YthbfgkeoojghoaaPs
import Derived.Test.YthbfgkeoojghoaaPt
import Derived.Test.YthbfgkeoojghoaaPu
import Derived.Test.YthbfgkeoojghoaaPv
import Derived.Test.YthbfgkeoojghoaaSo
import Derived.Test.YthbfgkeoojghoaaSh
import Derived.Test.YthbfgkeoojghoaaT
import Derived.Test.YthbfgkeoojghoaaW6
import Derived.Test.YthbfgkeoojghoaaW7
import Derived.Test.YthbfgkeoojghoaaW12
import Derived.Test.YthbfgkeoojghoaaW33
import Derived.Test.YthbfgkeoojghoaaW36
import Derived.KernelRfl
namespace Go.Proofs.Ythbfgkeoojghoaa.LFnAllGraphic
open Go.Sx Go.RowKit Go.Proofs.Ythbfgkeoojghoaa.T Go.Proofs.Ythbfgkeoojghoaa.W6 Go.Proofs.Ythbfgkeoojghoaa.W7 Go.Proofs.Ythbfgkeoojghoaa.W12 Go.Proofs.Ythbfgkeoojghoaa.W33 Go.Proofs.Ythbfgkeoojghoaa.W36
open Go.Plain
set_option linter.unusedVariables false
set_option maxRecDepth 100000 in
theorem FnAllGraphic_c (w : World) (Ar : Option Addr) (nr : Nat) (cr : Nat) (bs : List (Nat)) (hAr : At w Ar (cells fY bs)) (eAr : bs.length = nr) (lAr : nr ≤ cr) (hb : ∀ x ∈ bs, x < 256) : Calls Try.prog 6 #[.slice Ar (nr) (cr)] w (Ret fun rv w' => rv = .bool true ∧ New w w' []) := by
  have oAr := hAr.atB
  subst eAr
  refine fn_enter (args := [.slice Ar (bs.length) (cr)]) Try.func6 rfl Try.ntmps6 rfl (SS.start w) ?_
  refine cw_seq ?_
  refine cw_region ?_
  refine wl_v (ov_assign rfl) rfl rfl rfl ?_
  refine wl_nil ?_
  refine ce_then ?_
  refine cw_seq ?_
  refine cw_seq ?_
  refine cw_region ?_
  refine wl_v (ov_move rfl) rfl rfl rfl ?_
  refine wl_v (ov_len (sliceI_spec sI22) rfl) rfl rfl rfl ?_
  refine wl_if (ov_gtr rfl rfl) rfl rfl rfl (fun c11 => ?_) (fun c11 => ?_)
  ·
    refine wl_nil ?_
    refine ce_then ?_
    refine cw_true rfl ?_
    refine cw_seq ?_
    refine cw_region ?_
    refine wl_v (ov_assign rfl) rfl rfl rfl ?_
    refine wl_nil ?_
    refine ce_then ?_
    refine cw_ret ?_
    refine ce_then_ret ?_
    refine ce_results (v := .bool true) (res1 rfl (rv_t rfl)) (fun w' hw => ?_)
    exact ⟨rfl, (Keep.nil.ss hw).to_new⟩
  ·
    refine wl_nil ?_
    refine ce_then ?_
    refine cw_false rfl ?_
    refine cw_skip ?_
    refine ce_then ?_
    refine cw_seq ?_
    refine cw_region ?_
    refine wl_v (ov_move rfl) rfl rfl rfl ?_
    refine wl_r (or_call (fv := []) (vs := [.slice Ar (bs.length) (cr)]) (cs := []) en28 rfl rfl (call_x1 (fun w hw => DrawAllGraphic_c w Ar bs.length cr bs ((holds_old oAr) w hw) rfl lAr (by first | assumption | omega | (simp; omega))))) rfl rfl (kt1p rfl (fun v_13 h_13 => ?_))
    have hb13 := h_13
    have hal := allG_len v_13
    have haz : (allGV v_13).length ≤ 1048576 ∧ ∀ r ∈ allGV v_13, r.length ≤ 1048576 := ⟨by omega, fun r hr => by have := hal.2 r hr; omega⟩
    refine wl_v (ov_assign rfl) rfl rfl rfl ?_
    refine wl_nil ?_
    refine ce_then ?_
    refine cw_seq ?_
    refine cw_region ?_
    refine wl_v (ov_move rfl) rfl rfl rfl ?_
    refine wl_r (or_call (fv := []) (vs := [.int .i64 (v_13)]) (cs := []) en29 rfl rfl (call_x4 (fun w hw => AllGI_c w v_13 ))) rfl rfl (kt4p rfl (fun A2_15 k2_15 c2_15 hs2_15 h_15 => ?_))
    refine wl_v (ov_assign rfl) rfl rfl rfl ?_
    refine wl_nil ?_
    refine ce_then ?_
    refine cw_seq ?_
    refine cw_seq ?_
    refine cw_region ?_
    refine wl_v (ov_move rfl) rfl rfl rfl ?_
    refine wl_v (ov_move rfl) rfl rfl rfl ?_
    refine wl_r (or_call (fv := []) (vs := [.int .i64 (v_13)]) (cs := []) en31 rfl rfl (call_x3 (fun w hw => AllGS_c w v_13 ))) rfl rfl (kt3p rfl (fun A2_18 c2_18 hs2_18 h_18 => ?_))
    refine ct_fact (nest_facts (List.Mem.tail _ (List.Mem.tail _ (List.Mem.tail _ (List.Mem.head _))))) (fun hnfns_15_1 => ?_)
    have hnfns_15_1l := hnfns_15_1.1
    refine ct_fact (nest_facts (List.Mem.tail _ (List.Mem.head _))) (fun hnfns_18_2 => ?_)
    have hnfns_18_2l := hnfns_18_2.1
    refine wl_r (or_call (fv := []) (vs := [.slice A2_15 ((allGV v_13).length) (k2_15), .slice A2_18 ((allGV v_13).length) (c2_18)]) (cs := []) en30 rfl rfl (call_v (fun w hw => equalLists_c w A2_15 ((allGV v_13).length) k2_15 hs2_15 (allGV v_13) A2_18 ((allGV v_13).length) c2_18 hs2_18 (allGV v_13) ((holds_row (List.Mem.tail _ (List.Mem.tail _ (List.Mem.head _)))) w hw) rfl h_15 hnfns_15_1 ((mx_nest (List.Mem.tail _ (List.Mem.tail _ (List.Mem.tail _ (List.Mem.head _))))) w hw) ((holds_row (List.Mem.head _)) w hw) rfl h_18.1 hnfns_18_2 ((mx_nest (List.Mem.tail _ (List.Mem.head _))) w hw) (by first | assumption | omega | (simp; omega))))) rfl rfl (kt_if rfl (fun c19 => ?_) (fun c19 => ?_))
    ·
      refine wl_v (ov_not rfl) rfl rfl rfl ?_
      refine wl_v (ov_move rfl) rfl rfl rfl ?_
      refine wl_go rfl rfl ?_
      refine wl_v (ov_move rfl) rfl rfl rfl ?_
      refine wl_go rfl rfl ?_
      refine wl_if (ov_lss rfl rfl) rfl rfl rfl (fun c23 => ?_) (fun c23 => ?_)
      ·
        refine wl_v (ov_pick_f rfl rfl) rfl rfl rfl ?_
        refine wl_v (ov_move rfl) rfl rfl rfl ?_
        refine wl_not rfl rfl rfl rfl rfl rfl ?_
        refine wl_not rfl rfl rfl rfl rfl rfl ?_
        refine wl_v (ov_pick_t rfl rfl) rfl rfl rfl ?_
        refine wl_nil ?_
        refine ce_then ?_
        refine cw_true rfl ?_
        refine cw_seq ?_
        refine cw_region ?_
        refine wl_v (ov_move rfl) rfl rfl rfl ?_
        refine wl_v (ov_move rfl) rfl rfl rfl ?_
        refine wl_r (or_call (fv := []) (vs := [.int .i64 (v_13)]) (cs := []) en31 rfl rfl (call_x3 (fun w hw => AllGS_c w v_13 ))) rfl rfl (kt3p rfl (fun A2_31 c2_31 hs2_31 h_31 => ?_))
        refine ct_fact (nest_facts (List.Mem.tail _ (List.Mem.tail _ (List.Mem.tail _ (List.Mem.tail _ (List.Mem.tail _ (List.Mem.head _))))))) (fun hnfns_15_3 => ?_)
        have hnfns_15_3l := hnfns_15_3.1
        refine ct_fact (nest_facts (List.Mem.tail _ (List.Mem.head _))) (fun hnfns_31_4 => ?_)
        have hnfns_31_4l := hnfns_31_4.1
        refine wl_r (or_call (fv := []) (vs := [.slice A2_15 ((allGV v_13).length) (k2_15), .slice A2_31 ((allGV v_13).length) (c2_31)]) (cs := []) en30 rfl rfl (call_v (fun w hw => equalLists_c w A2_15 ((allGV v_13).length) k2_15 hs2_15 (allGV v_13) A2_31 ((allGV v_13).length) c2_31 hs2_31 (allGV v_13) ((holds_row (List.Mem.tail _ (List.Mem.tail _ (List.Mem.tail _ (List.Mem.tail _ (List.Mem.head _)))))) w hw) rfl h_15 hnfns_15_3 ((mx_nest (List.Mem.tail _ (List.Mem.tail _ (List.Mem.tail _ (List.Mem.tail _ (List.Mem.tail _ (List.Mem.head _))))))) w hw) ((holds_row (List.Mem.head _)) w hw) rfl h_31.1 hnfns_31_4 ((mx_nest (List.Mem.tail _ (List.Mem.head _))) w hw) (by first | assumption | omega | (simp; omega))))) rfl rfl (kt_if rfl (fun c32 => ?_) (fun c32 => ?_))
        ·
          refine wl_v (ov_assign rfl) rfl rfl rfl ?_
          refine wl_nil ?_
          refine ce_then ?_
          refine cw_ret ?_
          refine ce_then_ret ?_
          refine ce_results (v := .bool true) (res1 rfl (rv_t rfl)) (fun w' hw => ?_)
          exact ⟨rfl, (Keep.nil.ss hw).to_new⟩
        ·
          exact absurd rfl c32
      ·
        refine wl_v (ov_pick_f rfl rfl) rfl rfl rfl ?_
        refine wl_v (ov_move rfl) rfl rfl rfl ?_
        refine wl_go rfl rfl ?_
        refine wl_v (ov_move rfl) rfl rfl rfl ?_
        refine wl_go rfl rfl ?_
        refine wl_if (ov_gtr rfl rfl) rfl rfl rfl (fun c27 => ?_) (fun c27 => ?_)
        ·
          refine wl_v (ov_pick_f rfl rfl) rfl rfl rfl ?_
          refine wl_nil ?_
          refine ce_then ?_
          refine cw_true rfl ?_
          refine cw_seq ?_
          refine cw_region ?_
          refine wl_v (ov_move rfl) rfl rfl rfl ?_
          refine wl_v (ov_move rfl) rfl rfl rfl ?_
          refine wl_r (or_call (fv := []) (vs := [.int .i64 (v_13)]) (cs := []) en31 rfl rfl (call_x3 (fun w hw => AllGS_c w v_13 ))) rfl rfl (kt3p rfl (fun A2_31 c2_31 hs2_31 h_31 => ?_))
          refine ct_fact (nest_facts (List.Mem.tail _ (List.Mem.tail _ (List.Mem.tail _ (List.Mem.tail _ (List.Mem.tail _ (List.Mem.head _))))))) (fun hnfns_15_5 => ?_)
          have hnfns_15_5l := hnfns_15_5.1
          refine ct_fact (nest_facts (List.Mem.tail _ (List.Mem.head _))) (fun hnfns_31_6 => ?_)
          have hnfns_31_6l := hnfns_31_6.1
          refine wl_r (or_call (fv := []) (vs := [.slice A2_15 ((allGV v_13).length) (k2_15), .slice A2_31 ((allGV v_13).length) (c2_31)]) (cs := []) en30 rfl rfl (call_v (fun w hw => equalLists_c w A2_15 ((allGV v_13).length) k2_15 hs2_15 (allGV v_13) A2_31 ((allGV v_13).length) c2_31 hs2_31 (allGV v_13) ((holds_row (List.Mem.tail _ (List.Mem.tail _ (List.Mem.tail _ (List.Mem.tail _ (List.Mem.head _)))))) w hw) rfl h_15 hnfns_15_5 ((mx_nest (List.Mem.tail _ (List.Mem.tail _ (List.Mem.tail _ (List.Mem.tail _ (List.Mem.tail _ (List.Mem.head _))))))) w hw) ((holds_row (List.Mem.head _)) w hw) rfl h_31.1 hnfns_31_6 ((mx_nest (List.Mem.tail _ (List.Mem.head _))) w hw) (by first | assumption | omega | (simp; omega))))) rfl rfl (kt_if rfl (fun c32 => ?_) (fun c32 => ?_))
          ·
            refine wl_v (ov_assign rfl) rfl rfl rfl ?_
            refine wl_nil ?_
            refine ce_then ?_
            refine cw_ret ?_
            refine ce_then_ret ?_
            refine ce_results (v := .bool true) (res1 rfl (rv_t rfl)) (fun w' hw => ?_)
            exact ⟨rfl, (Keep.nil.ss hw).to_new⟩
          ·
            exact absurd rfl c32
        ·
          refine wl_v (ov_pick_f rfl rfl) rfl rfl rfl ?_
          refine wl_nil ?_
          refine ce_then ?_
          refine cw_false rfl ?_
          refine cw_skip ?_
          refine ce_then ?_
          refine cw_seq ?_
          refine cw_seq ?_
          obtain ⟨m, rfl⟩ := Int.eq_ofNat_of_zero_le (show 0 ≤ v_13 from (show 0 ≤ v_13 by omega))
          have hv : allGV ((m : Nat) : Int) = allGr m := (if_pos (by omega)).trans (by rw [Int.toNat_natCast])
          obtain ⟨hg1, hg2, hg3⟩ := good_list (n := m) (by omega)
          rw [← hv] at hg1 hg2 hg3
          refine cw_region ?_
          refine wl_v (ov_assign rfl) rfl rfl rfl ?_
          refine wl_nil ?_
          refine ce_then ?_
          refine cw_block ?_
          refine cw_loop1 (fun (k : Nat) => [(3, .int .i64 (((m : Nat) : Int))), (4, .slice A2_15 ((allGV ((m : Nat) : Int)).length) (k2_15)), (5, .int .i64 (((k : Nat) : Int)))]) (fun (k : Nat) => [row 27 1 A2_18 ((allGV ((m : Nat) : Int)).length) (c2_18) (cells fL hs2_18), nest 3 1 fI hs2_18 (allGV ((m : Nat) : Int)), row 27 1 A2_15 ((allGV ((m : Nat) : Int)).length) (c2_15) (cells fL hs2_15), nest 3 1 fI hs2_15 (allGV ((m : Nat) : Int))]) (fun (k : Nat) => True) (fun (k : Nat) => (allGV ((m : Nat) : Int)).length - k) 0 trivial (.cons rfl (.cons rfl (.cons (congrArg (fun z => some (Value.int .i64 z)) (show 0 = ((0 : Nat) : Int) by first | omega | rfl | (simp; done))) (.nil)))) (.cons (.head) (.cons (.head) (.cons (.head) (.cons (.head) (.nil))))) ?_
          intro R0 k hk hR0
          refine cw_seq ?_
          refine cw_seq ?_
          refine cw_region ?_
          refine wl_v (ov_move rfl) rfl rfl rfl ?_
          refine wl_v (ov_move rfl) rfl rfl rfl ?_
          refine wl_v (ov_len (sliceI_spec sI50) rfl) rfl rfl rfl ?_
          refine wl_if (ov_lss rfl rfl) rfl rfl rfl (fun c36 => ?_) (fun c36 => ?_)
          ·
            refine wl_nil ?_
            refine ce_then ?_
            refine cw_true rfl ?_
            refine cw_skip ?_
            refine ce_then ?_
            refine cw_seq ?_
            refine cw_block ?_
            refine cw_seq ?_
            refine cw_seq ?_
            refine cw_draw mixO [] (.cons (.head) (.cons (.head) (.cons (.head) (.cons (.head) (.nil))))) rfl ?_
            have hgk := hg1 _ (getD_mem (xs := allGV ((m : Nat) : Int)) (k := k) [] (by omega))
            have hgv := hgk.1.1.1
            refine wg_takep (i := 0) rfl (ov_move rfl) rfl rfl rfl (by kernel_rfl) (by kernel_rfl) (by kernel_rfl) rfl ?_
            refine wg_takep (i := 1) rfl (ov_move rfl) rfl rfl rfl (by kernel_rfl) (by kernel_rfl) (by kernel_rfl) rfl ?_
            refine stg_fact (nest_facts (List.Mem.tail _ (List.Mem.tail _ (List.Mem.tail _ (List.Mem.head _))))) (fun hnf41 => ?_)
            have hnl41 := hnf41.1
            refine wg_take (i := 2) rfl (ov_index (k := k) (c := k2_15) sI50 tI27 rfl rfl (some_holds (q := k * 1) (holds_row (List.Mem.tail _ (List.Mem.tail _ (List.Mem.head _)))) (by rw [cells_length fL_len]; have hlt : k < hs2_15.length := (by omega); omega)) (show k < (allGV ((m : Nat) : Int)).length from (by omega))) rfl rfl rfl (by kernel_rfl) (by kernel_rfl) (by kernel_rfl) (by kernel_rfl) ?_
            refine wg_take (i := 3) rfl (ov_load tI27 (holds_row (List.Mem.tail _ (List.Mem.tail _ (List.Mem.head _)))) rfl (get_fLn hnf41 (show k < (allGV ((m : Nat) : Int)).length from (by omega)))) rfl rfl rfl (by kernel_rfl) (by kernel_rfl) (by kernel_rfl) (by kernel_rfl) ?_
            refine wg_one (i := 4) (by kernel_rfl) ?_
            refine go_r rfl rfl rfl rfl (or_call (fv := []) (vs := [.slice ((hs2_15.getD k (none, 0, 0)).1) (((allGV ((m : Nat) : Int)).getD k []).length) ((hs2_15.getD k (none, 0, 0)).2.2)]) (cs := []) en32 rfl rfl (call_v (fun w hw => IsGraphicI_c w ((hs2_15.getD k (none, 0, 0)).1) (((allGV ((m : Nat) : Int)).getD k []).length) ((hs2_15.getD k (none, 0, 0)).2.2) ((allGV ((m : Nat) : Int)).getD k []) ((holds_nest (List.Mem.tail _ (List.Mem.tail _ (List.Mem.tail _ (List.Mem.head _)))) (show k < (allGV ((m : Nat) : Int)).length from (by omega))) w hw) rfl (hnf41.2 k (show k < (allGV ((m : Nat) : Int)).length from (by omega))).2 (by omega)))) (kt_if rfl (fun c43 => ?_) (fun c43 => ?_))
            ·
              refine gk (.cons (.head) (.cons (.head) (.cons (.head) (.cons (.head) (.nil))))) ?_
              refine wg_takep (i := 5) rfl (ov_not rfl) rfl rfl rfl (by kernel_rfl) (by kernel_rfl) (by kernel_rfl) rfl ?_
              refine wg_takep (i := 6) rfl (ov_move rfl) rfl rfl rfl (by kernel_rfl) (by kernel_rfl) (by kernel_rfl) rfl ?_
              refine wg_take_go (i := 7) rfl rfl rfl (ov_move rfl) rfl (by kernel_rfl) (by kernel_rfl) (by kernel_rfl) (by kernel_rfl) ?_
              refine wg_take_go (i := 8) rfl rfl rfl (ov_move rfl) rfl (by kernel_rfl) (by kernel_rfl) (by kernel_rfl) (by kernel_rfl) ?_
              refine stg_fact (nest_facts (List.Mem.tail _ (List.Mem.tail _ (List.Mem.tail _ (List.Mem.head _))))) (fun hnf48 => ?_)
              have hnl48 := hnf48.1
              refine wg_take_go (i := 9) rfl rfl rfl (ov_index (k := k) (c := k2_15) sI50 tI27 rfl rfl (some_holds (q := k * 1) (holds_row (List.Mem.tail _ (List.Mem.tail _ (List.Mem.head _)))) (by rw [cells_length fL_len]; have hlt : k < hs2_15.length := (by omega); omega)) (show k < (allGV ((m : Nat) : Int)).length from (by omega))) rfl (by kernel_rfl) (by kernel_rfl) (by kernel_rfl) (by kernel_rfl) ?_
              refine wg_take_go (i := 10) rfl rfl rfl (ov_load tI27 (holds_row (List.Mem.tail _ (List.Mem.tail _ (List.Mem.head _)))) rfl (get_fLn hnf48 (show k < (allGV ((m : Nat) : Int)).length from (by omega)))) rfl (by kernel_rfl) (by kernel_rfl) (by kernel_rfl) (by kernel_rfl) ?_
              refine wg_take_go (i := 12) rfl rfl rfl (ov_move rfl) rfl (by kernel_rfl) (by kernel_rfl) (by kernel_rfl) (by kernel_rfl) ?_
              refine wg_take_go (i := 13) rfl rfl rfl (ov_move rfl) rfl (by kernel_rfl) (by kernel_rfl) (by kernel_rfl) (by kernel_rfl) ?_
              refine stg_fact (nest_facts (List.Mem.tail _ (List.Mem.tail _ (List.Mem.tail _ (List.Mem.head _))))) (fun hnf53 => ?_)
              have hnl53 := hnf53.1
              refine wg_take_go (i := 14) rfl rfl rfl (ov_index (k := k) (c := k2_15) sI50 tI27 rfl rfl (some_holds (q := k * 1) (holds_row (List.Mem.tail _ (List.Mem.tail _ (List.Mem.head _)))) (by rw [cells_length fL_len]; have hlt : k < hs2_15.length := (by omega); omega)) (show k < (allGV ((m : Nat) : Int)).length from (by omega))) rfl (by kernel_rfl) (by kernel_rfl) (by kernel_rfl) (by kernel_rfl) ?_
              refine wg_take_go (i := 15) rfl rfl rfl (ov_load tI27 (holds_row (List.Mem.tail _ (List.Mem.tail _ (List.Mem.head _)))) rfl (get_fLn hnf53 (show k < (allGV ((m : Nat) : Int)).length from (by omega)))) rfl (by kernel_rfl) (by kernel_rfl) (by kernel_rfl) (by kernel_rfl) ?_
              refine wg_one (i := 11) (by kernel_rfl) ?_
              refine go_rg rfl rfl rfl rfl (or_call (fv := []) (vs := [.slice ((hs2_15.getD k (none, 0, 0)).1) (((allGV ((m : Nat) : Int)).getD k []).length) ((hs2_15.getD k (none, 0, 0)).2.2)]) (cs := []) en33 rfl rfl (call_x3 (fun w hw => SortDegreesI_c w ((hs2_15.getD k (none, 0, 0)).1) (((allGV ((m : Nat) : Int)).getD k []).length) ((hs2_15.getD k (none, 0, 0)).2.2) ((allGV ((m : Nat) : Int)).getD k []) ((holds_nest (List.Mem.tail _ (List.Mem.tail _ (List.Mem.tail _ (List.Mem.head _)))) (show k < (allGV ((m : Nat) : Int)).length from (by omega))) w hw) rfl (hnf48.2 k (show k < (allGV ((m : Nat) : Int)).length from (by omega))).2 (by omega)))) (kt3p rfl (fun A2_50 c2_50 c3_50 h_50 => ?_))
              refine gk (.cons (.tail .head) (.cons (.tail .head) (.cons (.tail .head) (.cons (.tail .head) (.nil))))) ?_
              refine wg_one (i := 16) (by kernel_rfl) ?_
              refine go_rg rfl rfl rfl rfl (or_call (fv := []) (vs := [.slice A2_50 ((sortedL ((allGV ((m : Nat) : Int)).getD k [])).length) (c2_50), .slice ((hs2_15.getD k (none, 0, 0)).1) (((allGV ((m : Nat) : Int)).getD k []).length) ((hs2_15.getD k (none, 0, 0)).2.2)]) (cs := []) en11 rfl rfl (call_v (fun w hw => equalInts_c w A2_50 ((sortedL ((allGV ((m : Nat) : Int)).getD k [])).length) c2_50 (sortedL ((allGV ((m : Nat) : Int)).getD k [])) ((hs2_15.getD k (none, 0, 0)).1) (((allGV ((m : Nat) : Int)).getD k []).length) ((hs2_15.getD k (none, 0, 0)).2.2) ((allGV ((m : Nat) : Int)).getD k []) ((holds_row (List.Mem.head _)) w hw) rfl h_50 ((holds_nest (List.Mem.tail _ (List.Mem.tail _ (List.Mem.tail _ (List.Mem.tail _ (List.Mem.head _))))) (show k < (allGV ((m : Nat) : Int)).length from (by omega))) w hw) rfl (hnf53.2 k (show k < (allGV ((m : Nat) : Int)).length from (by omega))).2 (by rw [hgk.2.1]; omega)))) (kt_if rfl (fun c55 => ?_) (fun c55 => ?_))
              ·
                refine gk (.cons (.tail .head) (.cons (.tail .head) (.cons (.tail .head) (.cons (.tail .head) (.nil))))) ?_
                refine wg_take_go (i := 17) rfl rfl rfl (ov_not rfl) rfl (by kernel_rfl) (by kernel_rfl) (by kernel_rfl) (by kernel_rfl) ?_
                refine wg_takep (i := 18) rfl (ov_pick_f rfl rfl) rfl rfl rfl (by kernel_rfl) (by kernel_rfl) (by kernel_rfl) rfl ?_
                refine wg_takep (i := 19) rfl (ov_move rfl) rfl rfl rfl (by kernel_rfl) (by kernel_rfl) (by kernel_rfl) rfl ?_
                refine wg_take_go (i := 20) rfl rfl rfl (ov_move rfl) rfl (by kernel_rfl) (by kernel_rfl) (by kernel_rfl) (by kernel_rfl) ?_
                refine wg_take_go (i := 21) rfl rfl rfl (ov_move rfl) rfl (by kernel_rfl) (by kernel_rfl) (by kernel_rfl) (by kernel_rfl) ?_
                refine stg_fact (nest_facts (List.Mem.tail _ (List.Mem.tail _ (List.Mem.tail _ (List.Mem.head _))))) (fun hnf61 => ?_)
                have hnl61 := hnf61.1
                refine wg_take_go (i := 22) rfl rfl rfl (ov_index (k := k) (c := k2_15) sI50 tI27 rfl rfl (some_holds (q := k * 1) (holds_row (List.Mem.tail _ (List.Mem.tail _ (List.Mem.head _)))) (by rw [cells_length fL_len]; have hlt : k < hs2_15.length := (by omega); omega)) (show k < (allGV ((m : Nat) : Int)).length from (by omega))) rfl (by kernel_rfl) (by kernel_rfl) (by kernel_rfl) (by kernel_rfl) ?_
                refine wg_take_go (i := 23) rfl rfl rfl (ov_load tI27 (holds_row (List.Mem.tail _ (List.Mem.tail _ (List.Mem.head _)))) rfl (get_fLn hnf61 (show k < (allGV ((m : Nat) : Int)).length from (by omega)))) rfl (by kernel_rfl) (by kernel_rfl) (by kernel_rfl) (by kernel_rfl) ?_
                refine wg_take_go (i := 24) rfl rfl rfl (ov_len (sliceI_spec sI27) rfl) rfl (by kernel_rfl) (by kernel_rfl) (by kernel_rfl) (by kernel_rfl) ?_
                refine wg_take_go (i := 25) rfl rfl rfl (ov_move rfl) rfl (by kernel_rfl) (by kernel_rfl) (by kernel_rfl) (by kernel_rfl) ?_
                refine wg_take_go_if (i := 26) rfl rfl rfl (ov_neq rfl rfl) rfl (by kernel_rfl) (by kernel_rfl) (by kernel_rfl) (by kernel_rfl) (fun c65 => ?_) (fun c65 => ?_)
                ·
                  exact absurd (by omega) c65
                ·
                  refine wg_takep (i := 27) rfl (ov_pick_f rfl rfl) rfl rfl rfl (by kernel_rfl) (by kernel_rfl) (by kernel_rfl) rfl ?_
                  refine wg_takep (i := 28) rfl (ov_move rfl) rfl rfl rfl (by kernel_rfl) (by kernel_rfl) (by kernel_rfl) rfl ?_
                  refine wg_take_go (i := 29) rfl rfl rfl (ov_move rfl) rfl (by kernel_rfl) (by kernel_rfl) (by kernel_rfl) (by kernel_rfl) ?_
                  refine wg_take_go_if (i := 30) rfl rfl rfl (ov_gtr rfl rfl) rfl (by kernel_rfl) (by kernel_rfl) (by kernel_rfl) (by kernel_rfl) (fun c69 => ?_) (fun c69 => ?_)
                  ·
                    refine wg_take_go (i := 31) rfl rfl rfl (ov_move rfl) rfl (by kernel_rfl) (by kernel_rfl) (by kernel_rfl) (by kernel_rfl) ?_
                    refine wg_take_go (i := 32) rfl rfl rfl (ov_move rfl) rfl (by kernel_rfl) (by kernel_rfl) (by kernel_rfl) (by kernel_rfl) ?_
                    refine wg_take_go (i := 33) rfl rfl rfl (ov_move rfl) rfl (by kernel_rfl) (by kernel_rfl) (by kernel_rfl) (by kernel_rfl) ?_
                    refine wg_take_go (i := 34) rfl rfl rfl (ov_sub (r := ((k - 1 : Nat) : Int)) rfl rfl (by omega) (by omega)) rfl (by kernel_rfl) (by kernel_rfl) (by kernel_rfl) (by kernel_rfl) ?_
                    refine stg_fact (nest_facts (List.Mem.tail _ (List.Mem.tail _ (List.Mem.tail _ (List.Mem.head _))))) (fun hnf74 => ?_)
                    have hnl74 := hnf74.1
                    refine wg_take_go (i := 35) rfl rfl rfl (ov_index (k := k - 1) (c := k2_15) sI50 tI27 rfl rfl (some_holds (q := (k - 1) * 1) (holds_row (List.Mem.tail _ (List.Mem.tail _ (List.Mem.head _)))) (by rw [cells_length fL_len]; have hlt : k - 1 < hs2_15.length := (by omega); omega)) (show k - 1 < (allGV ((m : Nat) : Int)).length from (by omega))) rfl (by kernel_rfl) (by kernel_rfl) (by kernel_rfl) (by kernel_rfl) ?_
                    refine wg_take_go (i := 36) rfl rfl rfl (ov_load tI27 (holds_row (List.Mem.tail _ (List.Mem.tail _ (List.Mem.head _)))) rfl (get_fLn hnf74 (show k - 1 < (allGV ((m : Nat) : Int)).length from (by omega)))) rfl (by kernel_rfl) (by kernel_rfl) (by kernel_rfl) (by kernel_rfl) ?_
                    refine wg_take_go (i := 37) rfl rfl rfl (ov_move rfl) rfl (by kernel_rfl) (by kernel_rfl) (by kernel_rfl) (by kernel_rfl) ?_
                    refine wg_take_go (i := 38) rfl rfl rfl (ov_move rfl) rfl (by kernel_rfl) (by kernel_rfl) (by kernel_rfl) (by kernel_rfl) ?_
                    refine stg_fact (nest_facts (List.Mem.tail _ (List.Mem.tail _ (List.Mem.tail _ (List.Mem.head _))))) (fun hnf78 => ?_)
                    have hnl78 := hnf78.1
                    refine wg_take_go (i := 39) rfl rfl rfl (ov_index (k := k) (c := k2_15) sI50 tI27 rfl rfl (some_holds (q := k * 1) (holds_row (List.Mem.tail _ (List.Mem.tail _ (List.Mem.head _)))) (by rw [cells_length fL_len]; have hlt : k < hs2_15.length := (by omega); omega)) (show k < (allGV ((m : Nat) : Int)).length from (by omega))) rfl (by kernel_rfl) (by kernel_rfl) (by kernel_rfl) (by kernel_rfl) ?_
                    refine wg_take_go (i := 40) rfl rfl rfl (ov_load tI27 (holds_row (List.Mem.tail _ (List.Mem.tail _ (List.Mem.head _)))) rfl (get_fLn hnf78 (show k < (allGV ((m : Nat) : Int)).length from (by omega)))) rfl (by kernel_rfl) (by kernel_rfl) (by kernel_rfl) (by kernel_rfl) ?_
                    refine wg_one (i := 41) (by kernel_rfl) ?_
                    refine go_rg rfl rfl rfl rfl (or_call (fv := []) (vs := [.slice ((hs2_15.getD (k - 1) (none, 0, 0)).1) (((allGV ((m : Nat) : Int)).getD (k - 1) []).length) ((hs2_15.getD (k - 1) (none, 0, 0)).2.2), .slice ((hs2_15.getD k (none, 0, 0)).1) (((allGV ((m : Nat) : Int)).getD k []).length) ((hs2_15.getD k (none, 0, 0)).2.2)]) (cs := []) en11 rfl rfl (call_v (fun w hw => equalInts_c w ((hs2_15.getD (k - 1) (none, 0, 0)).1) (((allGV ((m : Nat) : Int)).getD (k - 1) []).length) ((hs2_15.getD (k - 1) (none, 0, 0)).2.2) ((allGV ((m : Nat) : Int)).getD (k - 1) []) ((hs2_15.getD k (none, 0, 0)).1) (((allGV ((m : Nat) : Int)).getD k []).length) ((hs2_15.getD k (none, 0, 0)).2.2) ((allGV ((m : Nat) : Int)).getD k []) ((holds_nest (List.Mem.tail _ (List.Mem.tail _ (List.Mem.tail _ (List.Mem.tail _ (List.Mem.head _))))) (show k - 1 < (allGV ((m : Nat) : Int)).length from (by omega))) w hw) rfl (hnf74.2 (k - 1) (show k - 1 < (allGV ((m : Nat) : Int)).length from (by omega))).2 ((holds_nest (List.Mem.tail _ (List.Mem.tail _ (List.Mem.tail _ (List.Mem.tail _ (List.Mem.head _))))) (show k < (allGV ((m : Nat) : Int)).length from (by omega))) w hw) rfl (hnf78.2 k (show k < (allGV ((m : Nat) : Int)).length from (by omega))).2 (by have := hal.2 _ (getD_mem (xs := allGV ((m : Nat) : Int)) (k := k - 1) [] (by omega)); omega)))) (kt_if rfl (fun c80 => ?_) (fun c80 => ?_))
                    ·
                      exact absurd c80 (hg2 k (by omega) (by omega))
                    ·
                      refine gk (.cons (.tail .head) (.cons (.tail .head) (.cons (.tail .head) (.cons (.tail .head) (.nil))))) ?_
                      refine wg_take_go (i := 42) rfl rfl rfl (ov_pick_t rfl rfl) rfl (by kernel_rfl) (by kernel_rfl) (by kernel_rfl) (by kernel_rfl) ?_
                      refine wg_takep (i := 43) rfl (ov_pick_f rfl rfl) rfl rfl rfl (by kernel_rfl) (by kernel_rfl) (by kernel_rfl) rfl ?_
                      refine wg_done (by kernel_rfl) ?_
                      refine ce_then ?_
                      refine cw_false rfl ?_
                      refine cw_skip ?_
                      refine ce_then ?_
                      refine cw_seq ?_
                      refine cw_region ?_
                      refine wl_v (ov_move rfl) rfl rfl rfl ?_
                      refine wl_v (ov_move rfl) rfl rfl rfl ?_
                      refine ct_fact (nest_facts (List.Mem.tail _ (List.Mem.tail _ (List.Mem.tail _ (List.Mem.tail _ (List.Mem.head _)))))) (fun hnf85 => ?_)
                      have hnl85 := hnf85.1
                      refine wl_v (ov_index (k := k) (c := k2_15) sI50 tI27 rfl rfl (some_holds (q := k * 1) (holds_row (List.Mem.tail _ (List.Mem.tail _ (List.Mem.tail _ (List.Mem.head _))))) (by rw [cells_length fL_len]; have hlt : k < hs2_15.length := (by omega); omega)) (show k < (allGV ((m : Nat) : Int)).length from (by omega))) rfl rfl rfl ?_
                      refine wl_v (ov_load tI27 (holds_row (List.Mem.tail _ (List.Mem.tail _ (List.Mem.tail _ (List.Mem.head _))))) rfl (get_fLn hnf85 (show k < (allGV ((m : Nat) : Int)).length from (by omega)))) rfl rfl rfl ?_
                      refine wl_r (or_call (fv := []) (vs := [.slice ((hs2_15.getD k (none, 0, 0)).1) (((allGV ((m : Nat) : Int)).getD k []).length) ((hs2_15.getD k (none, 0, 0)).2.2)]) (cs := []) en34 rfl rfl (call_x2 (fun w hw => ComplementI_c w ((hs2_15.getD k (none, 0, 0)).1) (((allGV ((m : Nat) : Int)).getD k []).length) ((hs2_15.getD k (none, 0, 0)).2.2) ((allGV ((m : Nat) : Int)).getD k []) ((holds_nest (List.Mem.tail _ (List.Mem.tail _ (List.Mem.tail _ (List.Mem.tail _ (List.Mem.head _))))) (show k < (allGV ((m : Nat) : Int)).length from (by omega))) w hw) rfl (hnf85.2 k (show k < (allGV ((m : Nat) : Int)).length from (by omega))).2 (by omega)))) rfl rfl (kt2p rfl (fun A2_87 c2_87 h_87 => ?_))
                      refine wl_r (or_call (fv := []) (vs := [.slice A2_87 ((complV ((allGV ((m : Nat) : Int)).getD k [])).length) (c2_87)]) (cs := []) en33 rfl rfl (call_x3 (fun w hw => SortDegreesI_c w A2_87 ((complV ((allGV ((m : Nat) : Int)).getD k [])).length) c2_87 (complV ((allGV ((m : Nat) : Int)).getD k [])) ((holds_row (List.Mem.head _)) w hw) rfl h_87 (by have := complV_len ((allGV ((m : Nat) : Int)).getD k []); omega)))) rfl rfl (kt3p rfl (fun A2_88 c2_88 c3_88 h_88 => ?_))
                      refine wl_v (ov_assign rfl) rfl rfl rfl ?_
                      refine wl_nil ?_
                      refine ce_then ?_
                      refine cw_seq ?_
                      refine cw_region ?_
                      refine wl_v (ov_assign rfl) rfl rfl rfl ?_
                      refine wl_nil ?_
                      refine ce_then ?_
                      refine cw_seq ?_
                      refine cw_seq ?_
                      refine cw_region ?_
                      refine wl_v (ov_assign rfl) rfl rfl rfl ?_
                      refine wl_nil ?_
                      refine ce_then ?_
                      refine cw_block ?_
                      refine cw_loop2 (fun (i : Nat) (b : Bool) => [(3, .int .i64 (((m : Nat) : Int))), (4, .slice A2_15 ((allGV ((m : Nat) : Int)).length) (k2_15)), (5, .int .i64 (((k : Nat) : Int))), (6, .slice A2_88 ((sortedL (complV ((allGV ((m : Nat) : Int)).getD k []))).length) (c2_88)), (7, .bool (b)), (8, .int .i64 (((i : Nat) : Int)))]) (fun (i : Nat) (b : Bool) => [row 3 1 A2_88 ((sortedL (complV ((allGV ((m : Nat) : Int)).getD k []))).length) (c3_88) (cells fI (sortedL (complV ((allGV ((m : Nat) : Int)).getD k [])))), row 3 1 A2_87 ((complV ((allGV ((m : Nat) : Int)).getD k [])).length) (c2_87) (cells fI (complV ((allGV ((m : Nat) : Int)).getD k []))), row 3 1 A2_50 ((sortedL ((allGV ((m : Nat) : Int)).getD k [])).length) (c3_50) (cells fI (sortedL ((allGV ((m : Nat) : Int)).getD k []))), row 27 1 A2_18 ((allGV ((m : Nat) : Int)).length) (c2_18) (cells fL hs2_18), nest 3 1 fI hs2_18 (allGV ((m : Nat) : Int)), row 27 1 A2_15 ((allGV ((m : Nat) : Int)).length) (c2_15) (cells fL hs2_15), nest 3 1 fI hs2_15 (allGV ((m : Nat) : Int))]) (fun (i : Nat) (b : Bool) => i ≤ (allGV ((m : Nat) : Int)).length ∧ (b = false → ∀ j, j < i → (allGV ((m : Nat) : Int)).getD j [] ≠ sortedL (complV ((allGV ((m : Nat) : Int)).getD k [])))) (fun (i : Nat) (b : Bool) => (allGV ((m : Nat) : Int)).length - i) 0 false ⟨by omega, fun _ j hj => absurd hj (Nat.not_lt_zero _)⟩ (.cons rfl (.cons rfl (.cons rfl (.cons rfl (.cons rfl (.cons (congrArg (fun z => some (Value.int .i64 z)) (show 0 = ((0 : Nat) : Int) by first | omega | rfl | (simp; done))) (.nil))))))) (.cons (.head) (.cons (.head) (.cons (.head) (.cons (.head) (.cons (.head) (.cons (.head) (.cons (.head) (.nil)))))))) ?_
                      intro R1 i b hk1 hR1
                      obtain ⟨hi1, hi2⟩ := hk1
                      refine cw_seq ?_
                      refine cw_seq ?_
                      refine cw_region ?_
                      refine wl_v (ov_move rfl) rfl rfl rfl ?_
                      refine wl_v (ov_move rfl) rfl rfl rfl ?_
                      refine wl_v (ov_len (sliceI_spec sI50) rfl) rfl rfl rfl ?_
                      refine wl_if (ov_lss rfl rfl) rfl rfl rfl (fun c92 => ?_) (fun c92 => ?_)
                      ·
                        refine wl_nil ?_
                        refine ce_then ?_
                        refine cw_true rfl ?_
                        refine cw_skip ?_
                        refine ce_then ?_
                        refine cw_seq ?_
                        refine cw_block ?_
                        refine cw_region ?_
                        refine wl_v (ov_move rfl) rfl rfl rfl ?_
                        refine wl_v (ov_move rfl) rfl rfl rfl ?_
                        refine ct_bool (i := 96) rfl (fun b96 => ?_) (fun b96 => ?_)
                        ·
                          refine wl_not rfl rfl rfl rfl rfl rfl ?_
                          refine wl_not rfl rfl rfl rfl rfl rfl ?_
                          refine wl_not rfl rfl rfl rfl rfl rfl ?_
                          refine wl_not rfl rfl rfl rfl rfl rfl ?_
                          refine wl_not rfl rfl rfl rfl rfl rfl ?_
                          refine wl_not rfl rfl rfl rfl rfl rfl ?_
                          refine wl_v (ov_pick_t rfl rfl) rfl rfl rfl ?_
                          refine wl_v (ov_assign rfl) rfl rfl rfl ?_
                          refine wl_nil ?_
                          refine ce_block ?_
                          refine ce_then ?_
                          refine cw_region ?_
                          refine wl_v (ov_move rfl) rfl rfl rfl ?_
                          refine wl_v (ov_add (r := ((i + 1 : Nat) : Int)) rfl rfl rfl (by omega)) rfl rfl rfl ?_
                          refine wl_v (ov_assign rfl) rfl rfl rfl ?_
                          refine wl_nil ?_
                          exact fun ac_ w_ hs_ => hR1 (i + 1) true ⟨by omega, fun h => (by cases h)⟩ (by omega) ac_ w_ (hs_.weaken (.cons rfl (.cons rfl (.cons rfl (.cons rfl (.cons rfl (.cons rfl (.nil))))))) (.cons (.head) (.cons (.head) (.cons (.head) (.cons (.head) (.cons (.head) (.cons (.head) (.cons (.head) (.nil)))))))))
                        ·
                          refine wl_go rfl rfl ?_
                          refine wl_v (ov_move rfl) rfl rfl rfl ?_
                          refine wl_go rfl rfl ?_
                          refine wl_v (ov_move rfl) rfl rfl rfl ?_
                          refine wl_go rfl rfl ?_
                          refine ct_fact (nest_facts (List.Mem.tail _ (List.Mem.tail _ (List.Mem.tail _ (List.Mem.tail _ (List.Mem.tail _ (List.Mem.tail _ (List.Mem.head _)))))))) (fun hnf99 => ?_)
                          have hnl99 := hnf99.1
                          refine wl_v (ov_index (k := i) (c := k2_15) sI50 tI27 rfl rfl (some_holds (q := i * 1) (holds_row (List.Mem.tail _ (List.Mem.tail _ (List.Mem.tail _ (List.Mem.tail _ (List.Mem.tail _ (List.Mem.head _))))))) (by rw [cells_length fL_len]; have hlt : i < hs2_15.length := (by omega); omega)) (show i < (allGV ((m : Nat) : Int)).length from (by omega))) rfl rfl rfl ?_
                          refine wl_go rfl rfl ?_
                          refine wl_v (ov_load tI27 (holds_row (List.Mem.tail _ (List.Mem.tail _ (List.Mem.tail _ (List.Mem.tail _ (List.Mem.tail _ (List.Mem.head _))))))) rfl (get_fLn hnf99 (show i < (allGV ((m : Nat) : Int)).length from (by omega)))) rfl rfl rfl ?_
                          refine wl_go rfl rfl ?_
                          refine wl_v (ov_move rfl) rfl rfl rfl ?_
                          refine wl_go rfl rfl ?_
                          refine wl_r (or_call (fv := []) (vs := [.slice ((hs2_15.getD i (none, 0, 0)).1) (((allGV ((m : Nat) : Int)).getD i []).length) ((hs2_15.getD i (none, 0, 0)).2.2), .slice A2_88 ((sortedL (complV ((allGV ((m : Nat) : Int)).getD k []))).length) (c2_88)]) (cs := []) en11 rfl rfl (call_v (fun w hw => equalInts_c w ((hs2_15.getD i (none, 0, 0)).1) (((allGV ((m : Nat) : Int)).getD i []).length) ((hs2_15.getD i (none, 0, 0)).2.2) ((allGV ((m : Nat) : Int)).getD i []) A2_88 ((sortedL (complV ((allGV ((m : Nat) : Int)).getD k []))).length) c2_88 (sortedL (complV ((allGV ((m : Nat) : Int)).getD k []))) ((holds_nest (List.Mem.tail _ (List.Mem.tail _ (List.Mem.tail _ (List.Mem.tail _ (List.Mem.tail _ (List.Mem.tail _ (List.Mem.head _))))))) (show i < (allGV ((m : Nat) : Int)).length from (by omega))) w hw) rfl (hnf99.2 i (show i < (allGV ((m : Nat) : Int)).length from (by omega))).2 ((holds_row (List.Mem.head _)) w hw) rfl h_88 (by have := hal.2 _ (getD_mem (xs := allGV ((m : Nat) : Int)) (k := i) [] (by omega)); omega)))) rfl rfl (kt_if rfl (fun c102 => ?_) (fun c102 => ?_))
                          ·
                            refine wl_v (ov_pick_f rfl rfl) rfl rfl rfl ?_
                            refine wl_v (ov_assign rfl) rfl rfl rfl ?_
                            refine wl_nil ?_
                            refine ce_block ?_
                            refine ce_then ?_
                            refine cw_region ?_
                            refine wl_v (ov_move rfl) rfl rfl rfl ?_
                            refine wl_v (ov_add (r := ((i + 1 : Nat) : Int)) rfl rfl rfl (by omega)) rfl rfl rfl ?_
                            refine wl_v (ov_assign rfl) rfl rfl rfl ?_
                            refine wl_nil ?_
                            exact fun ac_ w_ hs_ => hR1 (i + 1) true ⟨by omega, fun h => (by cases h)⟩ (by omega) ac_ w_ (hs_.weaken (.cons rfl (.cons rfl (.cons rfl (.cons rfl (.cons rfl (.cons rfl (.nil))))))) (.cons (.head) (.cons (.head) (.cons (.head) (.cons (.head) (.cons (.head) (.cons (.head) (.cons (.head) (.nil)))))))))
                          ·
                            refine wl_v (ov_pick_f rfl rfl) rfl rfl rfl ?_
                            refine wl_v (ov_assign rfl) rfl rfl rfl ?_
                            refine wl_nil ?_
                            refine ce_block ?_
                            refine ce_then ?_
                            refine cw_region ?_
                            refine wl_v (ov_move rfl) rfl rfl rfl ?_
                            refine wl_v (ov_add (r := ((i + 1 : Nat) : Int)) rfl rfl rfl (by omega)) rfl rfl rfl ?_
                            refine wl_v (ov_assign rfl) rfl rfl rfl ?_
                            refine wl_nil ?_
                            exact fun ac_ w_ hs_ => hR1 (i + 1) false ⟨by omega, fun _ j hj => by rcases Nat.lt_succ_iff_lt_or_eq.1 hj with h | rfl; exact hi2 (by assumption) j h; exact c102⟩ (by omega) ac_ w_ (hs_.weaken (.cons rfl (.cons rfl (.cons rfl (.cons rfl (.cons rfl (.cons rfl (.nil))))))) (.cons (.head) (.cons (.head) (.cons (.head) (.cons (.head) (.cons (.head) (.cons (.head) (.cons (.head) (.nil)))))))))
                      ·
                        refine wl_nil ?_
                        refine ce_then ?_
                        refine cw_false rfl ?_
                        refine cw_exit ?_
                        refine ce_then_exit ?_
                        refine ce_then_exit ?_
                        refine ce_hit ?_
                        refine ce_then ?_
                        refine cw_seq ?_
                        refine cw_region ?_
                        refine wl_v (ov_move rfl) rfl rfl rfl ?_
                        refine wl_if (OpV.dec (ov_not rfl)) rfl rfl rfl (fun c105 => ?_) (fun c105 => ?_)
                        ·
                          refine wl_nil ?_
                          refine ce_then ?_
                          refine cw_true rfl ?_
                          refine cw_seq ?_
                          refine cw_region ?_
                          refine wl_v (ov_assign rfl) rfl rfl rfl ?_
                          refine wl_nil ?_
                          refine ce_then ?_
                          refine cw_ret ?_
                          refine ce_block_ret ?_
                          refine ce_then_ret ?_
                          refine ce_then_ret ?_
                          refine ce_block_ret ?_
                          refine ce_then_ret ?_
                          refine ce_results (v := .bool false) (res1 rfl (rv_t rfl)) (fun w' hw => ?_)
                          exfalso
                          obtain ⟨j, hj, he⟩ := List.getElem_of_mem hgk.2.2.2
                          exact hi2 (by simpa using c105) j (by omega) (by rw [List.getD_eq_getElem?_getD, List.getElem?_eq_getElem hj]; exact he)
                        ·
                          refine wl_nil ?_
                          refine ce_then ?_
                          refine cw_false rfl ?_
                          refine cw_skip ?_
                          refine ce_block ?_
                          refine ce_then ?_
                          refine cw_region ?_
                          refine wl_v (ov_move rfl) rfl rfl rfl ?_
                          refine wl_v (ov_add (r := ((k + 1 : Nat) : Int)) rfl rfl rfl (by omega)) rfl rfl rfl ?_
                          refine wl_v (ov_assign rfl) rfl rfl rfl ?_
                          refine wl_nil ?_
                          exact fun ac_ w_ hs_ => hR0 (k + 1) trivial (by omega) ac_ w_ (hs_.weaken (.cons rfl (.cons rfl (.cons rfl (.nil)))) (.cons (.tail (.tail (.tail .head))) (.cons (.tail (.tail (.tail .head))) (.cons (.tail (.tail (.tail .head))) (.cons (.tail (.tail (.tail .head))) (.nil))))))
                  ·
                    refine wg_take_go (i := 31) rfl rfl rfl (ov_move rfl) rfl (by kernel_rfl) (by kernel_rfl) (by kernel_rfl) (by kernel_rfl) ?_
                    refine wg_take_not (i := 32) rfl rfl rfl rfl rfl (by kernel_rfl) (by kernel_rfl) (by kernel_rfl) (by kernel_rfl) ?_
                    refine wg_take_not (i := 33) rfl rfl rfl rfl rfl (by kernel_rfl) (by kernel_rfl) (by kernel_rfl) (by kernel_rfl) ?_
                    refine wg_take_not (i := 34) rfl rfl rfl rfl rfl (by kernel_rfl) (by kernel_rfl) (by kernel_rfl) (by kernel_rfl) ?_
                    refine wg_take_not (i := 35) rfl rfl rfl rfl rfl (by kernel_rfl) (by kernel_rfl) (by kernel_rfl) (by kernel_rfl) ?_
                    refine wg_take_not (i := 36) rfl rfl rfl rfl rfl (by kernel_rfl) (by kernel_rfl) (by kernel_rfl) (by kernel_rfl) ?_
                    refine wg_take_not (i := 37) rfl rfl rfl rfl rfl (by kernel_rfl) (by kernel_rfl) (by kernel_rfl) (by kernel_rfl) ?_
                    refine wg_take_not (i := 38) rfl rfl rfl rfl rfl (by kernel_rfl) (by kernel_rfl) (by kernel_rfl) (by kernel_rfl) ?_
                    refine wg_take_not (i := 39) rfl rfl rfl rfl rfl (by kernel_rfl) (by kernel_rfl) (by kernel_rfl) (by kernel_rfl) ?_
                    refine wg_take_not (i := 40) rfl rfl rfl rfl rfl (by kernel_rfl) (by kernel_rfl) (by kernel_rfl) (by kernel_rfl) ?_
                    refine wg_take_not (i := 41) rfl rfl rfl rfl rfl (by kernel_rfl) (by kernel_rfl) (by kernel_rfl) (by kernel_rfl) ?_
                    refine wg_take_go (i := 42) rfl rfl rfl (ov_pick_f rfl rfl) rfl (by kernel_rfl) (by kernel_rfl) (by kernel_rfl) (by kernel_rfl) ?_
                    refine wg_takep (i := 43) rfl (ov_pick_f rfl rfl) rfl rfl rfl (by kernel_rfl) (by kernel_rfl) (by kernel_rfl) rfl ?_
                    refine wg_done (by kernel_rfl) ?_
                    refine ce_then ?_
                    refine cw_false rfl ?_
                    refine cw_skip ?_
                    refine ce_then ?_
                    refine cw_seq ?_
                    refine cw_region ?_
                    refine wl_v (ov_move rfl) rfl rfl rfl ?_
                    refine wl_v (ov_move rfl) rfl rfl rfl ?_
                    refine ct_fact (nest_facts (List.Mem.tail _ (List.Mem.tail _ (List.Mem.tail _ (List.Mem.tail _ (List.Mem.head _)))))) (fun hnf85 => ?_)
                    have hnl85 := hnf85.1
                    refine wl_v (ov_index (k := k) (c := k2_15) sI50 tI27 rfl rfl (some_holds (q := k * 1) (holds_row (List.Mem.tail _ (List.Mem.tail _ (List.Mem.tail _ (List.Mem.head _))))) (by rw [cells_length fL_len]; have hlt : k < hs2_15.length := (by omega); omega)) (show k < (allGV ((m : Nat) : Int)).length from (by omega))) rfl rfl rfl ?_
                    refine wl_v (ov_load tI27 (holds_row (List.Mem.tail _ (List.Mem.tail _ (List.Mem.tail _ (List.Mem.head _))))) rfl (get_fLn hnf85 (show k < (allGV ((m : Nat) : Int)).length from (by omega)))) rfl rfl rfl ?_
                    refine wl_r (or_call (fv := []) (vs := [.slice ((hs2_15.getD k (none, 0, 0)).1) (((allGV ((m : Nat) : Int)).getD k []).length) ((hs2_15.getD k (none, 0, 0)).2.2)]) (cs := []) en34 rfl rfl (call_x2 (fun w hw => ComplementI_c w ((hs2_15.getD k (none, 0, 0)).1) (((allGV ((m : Nat) : Int)).getD k []).length) ((hs2_15.getD k (none, 0, 0)).2.2) ((allGV ((m : Nat) : Int)).getD k []) ((holds_nest (List.Mem.tail _ (List.Mem.tail _ (List.Mem.tail _ (List.Mem.tail _ (List.Mem.head _))))) (show k < (allGV ((m : Nat) : Int)).length from (by omega))) w hw) rfl (hnf85.2 k (show k < (allGV ((m : Nat) : Int)).length from (by omega))).2 (by omega)))) rfl rfl (kt2p rfl (fun A2_87 c2_87 h_87 => ?_))
                    refine wl_r (or_call (fv := []) (vs := [.slice A2_87 ((complV ((allGV ((m : Nat) : Int)).getD k [])).length) (c2_87)]) (cs := []) en33 rfl rfl (call_x3 (fun w hw => SortDegreesI_c w A2_87 ((complV ((allGV ((m : Nat) : Int)).getD k [])).length) c2_87 (complV ((allGV ((m : Nat) : Int)).getD k [])) ((holds_row (List.Mem.head _)) w hw) rfl h_87 (by have := complV_len ((allGV ((m : Nat) : Int)).getD k []); omega)))) rfl rfl (kt3p rfl (fun A2_88 c2_88 c3_88 h_88 => ?_))
                    refine wl_v (ov_assign rfl) rfl rfl rfl ?_
                    refine wl_nil ?_
                    refine ce_then ?_
                    refine cw_seq ?_
                    refine cw_region ?_
                    refine wl_v (ov_assign rfl) rfl rfl rfl ?_
                    refine wl_nil ?_
                    refine ce_then ?_
                    refine cw_seq ?_
                    refine cw_seq ?_
                    refine cw_region ?_
                    refine wl_v (ov_assign rfl) rfl rfl rfl ?_
                    refine wl_nil ?_
                    refine ce_then ?_
                    refine cw_block ?_
                    refine cw_loop2 (fun (i : Nat) (b : Bool) => [(3, .int .i64 (((m : Nat) : Int))), (4, .slice A2_15 ((allGV ((m : Nat) : Int)).length) (k2_15)), (5, .int .i64 (((k : Nat) : Int))), (6, .slice A2_88 ((sortedL (complV ((allGV ((m : Nat) : Int)).getD k []))).length) (c2_88)), (7, .bool (b)), (8, .int .i64 (((i : Nat) : Int)))]) (fun (i : Nat) (b : Bool) => [row 3 1 A2_88 ((sortedL (complV ((allGV ((m : Nat) : Int)).getD k []))).length) (c3_88) (cells fI (sortedL (complV ((allGV ((m : Nat) : Int)).getD k [])))), row 3 1 A2_87 ((complV ((allGV ((m : Nat) : Int)).getD k [])).length) (c2_87) (cells fI (complV ((allGV ((m : Nat) : Int)).getD k []))), row 3 1 A2_50 ((sortedL ((allGV ((m : Nat) : Int)).getD k [])).length) (c3_50) (cells fI (sortedL ((allGV ((m : Nat) : Int)).getD k []))), row 27 1 A2_18 ((allGV ((m : Nat) : Int)).length) (c2_18) (cells fL hs2_18), nest 3 1 fI hs2_18 (allGV ((m : Nat) : Int)), row 27 1 A2_15 ((allGV ((m : Nat) : Int)).length) (c2_15) (cells fL hs2_15), nest 3 1 fI hs2_15 (allGV ((m : Nat) : Int))]) (fun (i : Nat) (b : Bool) => i ≤ (allGV ((m : Nat) : Int)).length ∧ (b = false → ∀ j, j < i → (allGV ((m : Nat) : Int)).getD j [] ≠ sortedL (complV ((allGV ((m : Nat) : Int)).getD k [])))) (fun (i : Nat) (b : Bool) => (allGV ((m : Nat) : Int)).length - i) 0 false ⟨by omega, fun _ j hj => absurd hj (Nat.not_lt_zero _)⟩ (.cons rfl (.cons rfl (.cons rfl (.cons rfl (.cons rfl (.cons (congrArg (fun z => some (Value.int .i64 z)) (show 0 = ((0 : Nat) : Int) by first | omega | rfl | (simp; done))) (.nil))))))) (.cons (.head) (.cons (.head) (.cons (.head) (.cons (.head) (.cons (.head) (.cons (.head) (.cons (.head) (.nil)))))))) ?_
                    intro R1 i b hk1 hR1
                    obtain ⟨hi1, hi2⟩ := hk1
                    refine cw_seq ?_
                    refine cw_seq ?_
                    refine cw_region ?_
                    refine wl_v (ov_move rfl) rfl rfl rfl ?_
                    refine wl_v (ov_move rfl) rfl rfl rfl ?_
                    refine wl_v (ov_len (sliceI_spec sI50) rfl) rfl rfl rfl ?_
                    refine wl_if (ov_lss rfl rfl) rfl rfl rfl (fun c92 => ?_) (fun c92 => ?_)
                    ·
                      refine wl_nil ?_
                      refine ce_then ?_
                      refine cw_true rfl ?_
                      refine cw_skip ?_
                      refine ce_then ?_
                      refine cw_seq ?_
                      refine cw_block ?_
                      refine cw_region ?_
                      refine wl_v (ov_move rfl) rfl rfl rfl ?_
                      refine wl_v (ov_move rfl) rfl rfl rfl ?_
                      refine ct_bool (i := 96) rfl (fun b96 => ?_) (fun b96 => ?_)
                      ·
                        refine wl_not rfl rfl rfl rfl rfl rfl ?_
                        refine wl_not rfl rfl rfl rfl rfl rfl ?_
                        refine wl_not rfl rfl rfl rfl rfl rfl ?_
                        refine wl_not rfl rfl rfl rfl rfl rfl ?_
                        refine wl_not rfl rfl rfl rfl rfl rfl ?_
                        refine wl_not rfl rfl rfl rfl rfl rfl ?_
                        refine wl_v (ov_pick_t rfl rfl) rfl rfl rfl ?_
                        refine wl_v (ov_assign rfl) rfl rfl rfl ?_
                        refine wl_nil ?_
                        refine ce_block ?_
                        refine ce_then ?_
                        refine cw_region ?_
                        refine wl_v (ov_move rfl) rfl rfl rfl ?_
                        refine wl_v (ov_add (r := ((i + 1 : Nat) : Int)) rfl rfl rfl (by omega)) rfl rfl rfl ?_
                        refine wl_v (ov_assign rfl) rfl rfl rfl ?_
                        refine wl_nil ?_
                        exact fun ac_ w_ hs_ => hR1 (i + 1) true ⟨by omega, fun h => (by cases h)⟩ (by omega) ac_ w_ (hs_.weaken (.cons rfl (.cons rfl (.cons rfl (.cons rfl (.cons rfl (.cons rfl (.nil))))))) (.cons (.head) (.cons (.head) (.cons (.head) (.cons (.head) (.cons (.head) (.cons (.head) (.cons (.head) (.nil)))))))))
                      ·
                        refine wl_go rfl rfl ?_
                        refine wl_v (ov_move rfl) rfl rfl rfl ?_
                        refine wl_go rfl rfl ?_
                        refine wl_v (ov_move rfl) rfl rfl rfl ?_
                        refine wl_go rfl rfl ?_
                        refine ct_fact (nest_facts (List.Mem.tail _ (List.Mem.tail _ (List.Mem.tail _ (List.Mem.tail _ (List.Mem.tail _ (List.Mem.tail _ (List.Mem.head _)))))))) (fun hnf99 => ?_)
                        have hnl99 := hnf99.1
                        refine wl_v (ov_index (k := i) (c := k2_15) sI50 tI27 rfl rfl (some_holds (q := i * 1) (holds_row (List.Mem.tail _ (List.Mem.tail _ (List.Mem.tail _ (List.Mem.tail _ (List.Mem.tail _ (List.Mem.head _))))))) (by rw [cells_length fL_len]; have hlt : i < hs2_15.length := (by omega); omega)) (show i < (allGV ((m : Nat) : Int)).length from (by omega))) rfl rfl rfl ?_
                        refine wl_go rfl rfl ?_
                        refine wl_v (ov_load tI27 (holds_row (List.Mem.tail _ (List.Mem.tail _ (List.Mem.tail _ (List.Mem.tail _ (List.Mem.tail _ (List.Mem.head _))))))) rfl (get_fLn hnf99 (show i < (allGV ((m : Nat) : Int)).length from (by omega)))) rfl rfl rfl ?_
                        refine wl_go rfl rfl ?_
                        refine wl_v (ov_move rfl) rfl rfl rfl ?_
                        refine wl_go rfl rfl ?_
                        refine wl_r (or_call (fv := []) (vs := [.slice ((hs2_15.getD i (none, 0, 0)).1) (((allGV ((m : Nat) : Int)).getD i []).length) ((hs2_15.getD i (none, 0, 0)).2.2), .slice A2_88 ((sortedL (complV ((allGV ((m : Nat) : Int)).getD k []))).length) (c2_88)]) (cs := []) en11 rfl rfl (call_v (fun w hw => equalInts_c w ((hs2_15.getD i (none, 0, 0)).1) (((allGV ((m : Nat) : Int)).getD i []).length) ((hs2_15.getD i (none, 0, 0)).2.2) ((allGV ((m : Nat) : Int)).getD i []) A2_88 ((sortedL (complV ((allGV ((m : Nat) : Int)).getD k []))).length) c2_88 (sortedL (complV ((allGV ((m : Nat) : Int)).getD k []))) ((holds_nest (List.Mem.tail _ (List.Mem.tail _ (List.Mem.tail _ (List.Mem.tail _ (List.Mem.tail _ (List.Mem.tail _ (List.Mem.head _))))))) (show i < (allGV ((m : Nat) : Int)).length from (by omega))) w hw) rfl (hnf99.2 i (show i < (allGV ((m : Nat) : Int)).length from (by omega))).2 ((holds_row (List.Mem.head _)) w hw) rfl h_88 (by have := hal.2 _ (getD_mem (xs := allGV ((m : Nat) : Int)) (k := i) [] (by omega)); omega)))) rfl rfl (kt_if rfl (fun c102 => ?_) (fun c102 => ?_))
                        ·
                          refine wl_v (ov_pick_f rfl rfl) rfl rfl rfl ?_
                          refine wl_v (ov_assign rfl) rfl rfl rfl ?_
                          refine wl_nil ?_
                          refine ce_block ?_
                          refine ce_then ?_
                          refine cw_region ?_
                          refine wl_v (ov_move rfl) rfl rfl rfl ?_
                          refine wl_v (ov_add (r := ((i + 1 : Nat) : Int)) rfl rfl rfl (by omega)) rfl rfl rfl ?_
                          refine wl_v (ov_assign rfl) rfl rfl rfl ?_
                          refine wl_nil ?_
                          exact fun ac_ w_ hs_ => hR1 (i + 1) true ⟨by omega, fun h => (by cases h)⟩ (by omega) ac_ w_ (hs_.weaken (.cons rfl (.cons rfl (.cons rfl (.cons rfl (.cons rfl (.cons rfl (.nil))))))) (.cons (.head) (.cons (.head) (.cons (.head) (.cons (.head) (.cons (.head) (.cons (.head) (.cons (.head) (.nil)))))))))
                        ·
                          refine wl_v (ov_pick_f rfl rfl) rfl rfl rfl ?_
                          refine wl_v (ov_assign rfl) rfl rfl rfl ?_
                          refine wl_nil ?_
                          refine ce_block ?_
                          refine ce_then ?_
                          refine cw_region ?_
                          refine wl_v (ov_move rfl) rfl rfl rfl ?_
                          refine wl_v (ov_add (r := ((i + 1 : Nat) : Int)) rfl rfl rfl (by omega)) rfl rfl rfl ?_
                          refine wl_v (ov_assign rfl) rfl rfl rfl ?_
                          refine wl_nil ?_
                          exact fun ac_ w_ hs_ => hR1 (i + 1) false ⟨by omega, fun _ j hj => by rcases Nat.lt_succ_iff_lt_or_eq.1 hj with h | rfl; exact hi2 (by assumption) j h; exact c102⟩ (by omega) ac_ w_ (hs_.weaken (.cons rfl (.cons rfl (.cons rfl (.cons rfl (.cons rfl (.cons rfl (.nil))))))) (.cons (.head) (.cons (.head) (.cons (.head) (.cons (.head) (.cons (.head) (.cons (.head) (.cons (.head) (.nil)))))))))
                    ·
                      refine wl_nil ?_
                      refine ce_then ?_
                      refine cw_false rfl ?_
                      refine cw_exit ?_
                      refine ce_then_exit ?_
                      refine ce_then_exit ?_
                      refine ce_hit ?_
                      refine ce_then ?_
                      refine cw_seq ?_
                      refine cw_region ?_
                      refine wl_v (ov_move rfl) rfl rfl rfl ?_
                      refine wl_if (OpV.dec (ov_not rfl)) rfl rfl rfl (fun c105 => ?_) (fun c105 => ?_)
                      ·
                        refine wl_nil ?_
                        refine ce_then ?_
                        refine cw_true rfl ?_
                        refine cw_seq ?_
                        refine cw_region ?_
                        refine wl_v (ov_assign rfl) rfl rfl rfl ?_
                        refine wl_nil ?_
                        refine ce_then ?_
                        refine cw_ret ?_
                        refine ce_block_ret ?_
                        refine ce_then_ret ?_
                        refine ce_then_ret ?_
                        refine ce_block_ret ?_
                        refine ce_then_ret ?_
                        refine ce_results (v := .bool false) (res1 rfl (rv_t rfl)) (fun w' hw => ?_)
                        exfalso
                        obtain ⟨j, hj, he⟩ := List.getElem_of_mem hgk.2.2.2
                        exact hi2 (by simpa using c105) j (by omega) (by rw [List.getD_eq_getElem?_getD, List.getElem?_eq_getElem hj]; exact he)
                      ·
                        refine wl_nil ?_
                        refine ce_then ?_
                        refine cw_false rfl ?_
                        refine cw_skip ?_
                        refine ce_block ?_
                        refine ce_then ?_
                        refine cw_region ?_
                        refine wl_v (ov_move rfl) rfl rfl rfl ?_
                        refine wl_v (ov_add (r := ((k + 1 : Nat) : Int)) rfl rfl rfl (by omega)) rfl rfl rfl ?_
                        refine wl_v (ov_assign rfl) rfl rfl rfl ?_
                        refine wl_nil ?_
                        exact fun ac_ w_ hs_ => hR0 (k + 1) trivial (by omega) ac_ w_ (hs_.weaken (.cons rfl (.cons rfl (.cons rfl (.nil)))) (.cons (.tail (.tail (.tail .head))) (.cons (.tail (.tail (.tail .head))) (.cons (.tail (.tail (.tail .head))) (.cons (.tail (.tail (.tail .head))) (.nil))))))
              ·
                exact absurd hgk.2.1 c55
            ·
              exact absurd hgk.1 c43
          ·
            refine wl_nil ?_
            refine ce_then ?_
            refine cw_false rfl ?_
            refine cw_exit ?_
            refine ce_then_exit ?_
            refine ce_then_exit ?_
            refine ce_hit ?_
            refine ce_then ?_
            refine cw_seq ?_
            refine cw_region ?_
            refine wl_v (ov_move rfl) rfl rfl rfl ?_
            refine wl_v (ov_len (sliceI_spec sI50) rfl) rfl rfl rfl ?_
            refine wl_if (ov_gtr rfl rfl) rfl rfl rfl (fun c108 => ?_) (fun c108 => ?_)
            ·
              refine wl_v (ov_assign rfl) rfl rfl rfl ?_
              refine wl_nil ?_
              refine ce_then ?_
              refine cw_ret ?_
              refine ce_results (v := .bool true) (res1 rfl (rv_t rfl)) (fun w' hw => ?_)
              exact ⟨rfl, (Keep.nil.ss hw).to_new⟩
            ·
              refine wl_v (ov_assign rfl) rfl rfl rfl ?_
              refine wl_nil ?_
              refine ce_then ?_
              refine cw_ret ?_
              refine ce_results (v := .bool false) (res1 rfl (rv_t rfl)) (fun w' hw => ?_)
              exfalso
              first | omega | contradiction
    ·
      exact absurd rfl c19
end Go.Proofs.Ythbfgkeoojghoaa.LFnAllGraphic
