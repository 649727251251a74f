/- Walks of functions of the given program: each returns what its Lean function says and leaves the memory that was there as it was. Conditions: those of each theorem. -/
import Derived.Test.YtfjgfocjogfodaaSm
import Derived.Test.YtfjgfocjogfodaaProg
import Derived.Test.YtfjgfocjogfodaaPl
import Derived.Test.YtfjgfocjogfodaaPo
import Derived.Test.YtfjgfocjogfodaaPd
import Derived.Test.YtfjgfocjogfodaaPe
import Derived.Test.YtfjgfocjogfodaaPh
import Derived.Test.YtfjgfocjogfodaaPm
import Derived.Test.YtfjgfocjogfodaaPc
import Derived.Test.YtfjgfocjogfodaaPs
import Derived.Test.YtfjgfocjogfodaaPt
import Derived.Test.YtfjgfocjogfodaaPu
import Derived.Test.YtfjgfocjogfodaaPv
import Derived.Test.YtfjgfocjogfodaaPw
import Derived.Test.YtfjgfocjogfodaaT
import Derived.Test.YtfjgfocjogfodaaW2
import Derived.Test.YtfjgfocjogfodaaW12
import Derived.Test.YtfjgfocjogfodaaW17
import Derived.Test.YtfjgfocjogfodaaW23
import Derived.Test.YtfjgfocjogfodaaW39
import Derived.KernelRfl
namespace Go.Proofs.Ytfjgfocjogfodaa.LFnForcedEdges
open Go.Sx Go.RowKit Go.Proofs.Ytfjgfocjogfodaa.T Go.Proofs.Ytfjgfocjogfodaa.W2 Go.Proofs.Ytfjgfocjogfodaa.W12 Go.Proofs.Ytfjgfocjogfodaa.W17 Go.Proofs.Ytfjgfocjogfodaa.W23 Go.Proofs.Ytfjgfocjogfodaa.W39
open Go.Plain
set_option linter.unusedVariables false
set_option maxRecDepth 100000 in
theorem FnForcedEdges_c (w : World) (Ar : Option Addr) (nr : Nat) (cr : Nat) (bs : List (Nat)) (hAr : At w Ar (cells fY bs)) (eAr : bs.length = nr) (lAr : nr ≤ cr) (hb : ∀ x ∈ bs, x < 256) : Calls Try.prog 5 #[.slice Ar (nr) (cr)] w (Ret fun rv w' => rv = .bool true ∧ New w w' []) := by
  have oAr := hAr.atB
  subst eAr
  refine fn_enter (args := [.slice Ar (bs.length) (cr)]) Try.func5 rfl Try.ntmps5 rfl (SS.start w) ?_
  refine cw_seq ?_
  refine cw_region ?_
  refine wl_v (ov_assign rfl) rfl rfl rfl ?_
  refine wl_nil ?_
  refine ce_then ?_
  refine cw_seq ?_
  refine cw_seq ?_
  refine cw_region ?_
  refine wl_v (ov_move rfl) rfl rfl rfl ?_
  refine wl_v (ov_len (sliceI_spec sI22) rfl) rfl rfl rfl ?_
  refine wl_if (ov_gtr rfl rfl) rfl rfl rfl (fun c12 => ?_) (fun c12 => ?_)
  ·
    refine wl_nil ?_
    refine ce_then ?_
    refine cw_true rfl ?_
    refine cw_seq ?_
    refine cw_region ?_
    refine wl_v (ov_assign rfl) rfl rfl rfl ?_
    refine wl_nil ?_
    refine ce_then ?_
    refine cw_ret ?_
    refine ce_then_ret ?_
    refine ce_results (v := .bool true) (res1 rfl (rv_t rfl)) (fun w' hw => ?_)
    exact ⟨rfl, (Keep.nil.ss hw).to_new⟩
  ·
    refine wl_nil ?_
    refine ce_then ?_
    refine cw_false rfl ?_
    refine cw_skip ?_
    refine ce_then ?_
    refine cw_seq ?_
    refine cw_region ?_
    refine wl_v (ov_move rfl) rfl rfl rfl ?_
    refine wl_r (or_call (fv := []) (vs := [.slice Ar (bs.length) (cr)]) (cs := []) en17 rfl rfl (call_x3 (fun w hw => DrawForcedEdges_c w Ar bs.length cr bs ((holds_old oAr) w hw) rfl lAr (by first | assumption | omega | (simp; omega))))) rfl rfl (kt3p rfl (fun A2_14 c2_14 ys_14 h_14 => ?_))
    have hfl := forcV_len2 ys_14
    have hal := allV_len ys_14
    have hac := allV_len (complV ys_14)
    have hcl := complV_len ys_14
    refine wl_v (ov_assign rfl) rfl rfl rfl ?_
    refine wl_nil ?_
    refine ce_then ?_
    refine cw_seq ?_
    refine cw_region ?_
    refine wl_v (ov_move rfl) rfl rfl rfl ?_
    refine wl_r (or_call (fv := []) (vs := [.slice A2_14 (ys_14.length) (c2_14)]) (cs := []) en18 rfl rfl (call_x3 (fun w hw => ForcI_c w A2_14 ys_14.length c2_14 ys_14 ((holds_row (List.Mem.head _)) w hw) rfl h_14.1 (by first | assumption | omega | (simp; omega))))) rfl rfl (kt3p rfl (fun A2_16 k2_16 c2_16 h_16 => ?_))
    refine wl_v (ov_assign rfl) rfl rfl rfl ?_
    refine wl_nil ?_
    refine ce_then ?_
    refine cw_seq ?_
    refine cw_seq ?_
    refine cw_region ?_
    refine wl_v (ov_move rfl) rfl rfl rfl ?_
    refine wl_v (ov_move rfl) rfl rfl rfl ?_
    refine wl_r (or_call (fv := []) (vs := [.slice A2_14 (ys_14.length) (c2_14)]) (cs := []) en20 rfl rfl (call_x2 (fun w hw => ForcS_c w A2_14 ys_14.length c2_14 ys_14 ((holds_row (List.Mem.tail _ (List.Mem.head _))) w hw) rfl h_14.1 (by first | assumption | omega | (simp; omega))))) rfl rfl (kt2p rfl (fun A2_19 c2_19 h_19 => ?_))
    refine wl_r (or_call (fv := []) (vs := [.slice A2_16 ((forcV ys_14).length) (k2_16), .slice A2_19 ((forcV ys_14).length) (c2_19)]) (cs := []) en19 rfl rfl (call_v (fun w hw => equalEdges_c w A2_16 ((forcV ys_14).length) k2_16 (forcV ys_14) A2_19 ((forcV ys_14).length) c2_19 (forcV ys_14) ((holds_row (List.Mem.tail _ (List.Mem.head _))) w hw) rfl h_16 ((holds_row (List.Mem.head _)) w hw) rfl h_19 (by omega)))) rfl rfl (kt_if rfl (fun c20 => ?_) (fun c20 => ?_))
    ·
      refine wl_v (ov_not rfl) rfl rfl rfl ?_
      refine wl_v (ov_move rfl) rfl rfl rfl ?_
      refine wl_go rfl rfl ?_
      refine wl_v (ov_move rfl) rfl rfl rfl ?_
      refine wl_go rfl rfl ?_
      refine wl_r (or_call (fv := []) (vs := [.slice A2_14 (ys_14.length) (c2_14)]) (cs := []) en21 rfl rfl (call_v (fun w hw => validI_c w A2_14 ys_14.length c2_14 ys_14 ((holds_row (List.Mem.tail _ (List.Mem.tail _ (List.Mem.head _)))) w hw) rfl h_14.1 (by first | assumption | omega | (simp; omega))))) rfl rfl (kt_if rfl (fun c24 => ?_) (fun c24 => ?_))
      ·
        have hV := c24
        refine wl_go rfl rfl ?_
        refine wl_v (ov_not rfl) rfl rfl rfl ?_
        refine wl_v (ov_pick_f rfl rfl) rfl rfl rfl ?_
        refine wl_v (ov_move rfl) rfl rfl rfl ?_
        refine wl_go rfl rfl ?_
        refine wl_v (ov_move rfl) rfl rfl rfl ?_
        refine wl_go rfl rfl ?_
        refine wl_v (ov_len (sliceI_spec sI31) rfl) rfl rfl rfl ?_
        refine wl_go rfl rfl ?_
        refine wl_if (ov_gtr rfl rfl) rfl rfl rfl (fun c30 => ?_) (fun c30 => ?_)
        ·
          refine wl_v (ov_pick_f rfl rfl) rfl rfl rfl ?_
          refine wl_nil ?_
          refine ce_then ?_
          refine cw_true rfl ?_
          refine cw_seq ?_
          refine cw_region ?_
          refine wl_v (ov_move rfl) rfl rfl rfl ?_
          refine wl_v (ov_move rfl) rfl rfl rfl ?_
          refine wl_r (or_call (fv := []) (vs := [.slice A2_14 (ys_14.length) (c2_14)]) (cs := []) en20 rfl rfl (call_x2 (fun w hw => ForcS_c w A2_14 ys_14.length c2_14 ys_14 ((holds_row (List.Mem.tail _ (List.Mem.tail _ (List.Mem.head _)))) w hw) rfl h_14.1 (by first | assumption | omega | (simp; omega))))) rfl rfl (kt2p rfl (fun A2_34 c2_34 h_34 => ?_))
          refine wl_r (or_call (fv := []) (vs := [.slice A2_16 ((forcV ys_14).length) (k2_16), .slice A2_34 ((forcV ys_14).length) (c2_34)]) (cs := []) en19 rfl rfl (call_v (fun w hw => equalEdges_c w A2_16 ((forcV ys_14).length) k2_16 (forcV ys_14) A2_34 ((forcV ys_14).length) c2_34 (forcV ys_14) ((holds_row (List.Mem.tail _ (List.Mem.tail _ (List.Mem.head _)))) w hw) rfl h_16 ((holds_row (List.Mem.head _)) w hw) rfl h_34 (by omega)))) rfl rfl (kt_if rfl (fun c35 => ?_) (fun c35 => ?_))
          ·
            refine wl_v (ov_assign rfl) rfl rfl rfl ?_
            refine wl_nil ?_
            refine ce_then ?_
            refine cw_ret ?_
            refine ce_then_ret ?_
            refine ce_results (v := .bool true) (res1 rfl (rv_t rfl)) (fun w' hw => ?_)
            exact ⟨rfl, (Keep.nil.ss hw).to_new⟩
          ·
            exact absurd rfl c35
        ·
          refine wl_v (ov_pick_f rfl rfl) rfl rfl rfl ?_
          refine wl_nil ?_
          refine ce_then ?_
          refine cw_false rfl ?_
          refine cw_skip ?_
          refine ce_then ?_
          refine cw_seq ?_
          refine cw_region ?_
          refine wl_v (ov_move rfl) rfl rfl rfl ?_
          refine wl_r (or_call (fv := []) (vs := [.slice A2_14 (ys_14.length) (c2_14)]) (cs := []) en22 rfl rfl (call_x3 (fun w hw => allReal_c w A2_14 ys_14.length c2_14 ys_14 ((holds_row (List.Mem.tail _ (List.Mem.tail _ (List.Mem.head _)))) w hw) rfl h_14.1 (by first | assumption | omega | (simp; omega))))) rfl rfl (kt3p rfl (fun A2_37 c2_37 hs_37 h_37 => ?_))
          refine ct_fact (nest_facts (List.Mem.tail _ (List.Mem.head _))) (fun hnfns_37_1 => ?_)
          have hnfns_37_1l := hnfns_37_1.1
          have hgl37 := gsOf_length ys_14.length hs_37
          refine wl_v (ov_assign rfl) rfl rfl rfl ?_
          refine wl_nil ?_
          refine ce_then ?_
          refine cw_seq ?_
          refine cw_region ?_
          refine wl_v (ov_move rfl) rfl rfl rfl ?_
          refine wl_r (or_call (fv := []) (vs := [.slice A2_14 (ys_14.length) (c2_14)]) (cs := []) en23 rfl rfl (call_x2 (fun w hw => ComplementI_c w A2_14 ys_14.length c2_14 ys_14 ((holds_row (List.Mem.tail _ (List.Mem.tail _ (List.Mem.tail _ (List.Mem.tail _ (List.Mem.head _)))))) w hw) rfl h_14.1 (by first | assumption | omega | (simp; omega))))) rfl rfl (kt2p rfl (fun A2_39 c2_39 h_39 => ?_))
          refine wl_r (or_call (fv := []) (vs := [.slice A2_39 ((complV ys_14).length) (c2_39)]) (cs := []) en22 rfl rfl (call_x3 (fun w hw => allReal_c w A2_39 ((complV ys_14).length) c2_39 (complV ys_14) ((holds_row (List.Mem.head _)) w hw) rfl h_39 (by first | assumption | omega | (simp; omega))))) rfl rfl (kt3p rfl (fun A2_40 c2_40 hs_40 h_40 => ?_))
          refine ct_fact (nest_facts (List.Mem.tail _ (List.Mem.head _))) (fun hnfns_40_2 => ?_)
          have hnfns_40_2l := hnfns_40_2.1
          have hgl40 := gsOf_length (complV ys_14).length hs_40
          refine wl_v (ov_assign rfl) rfl rfl rfl ?_
          refine wl_nil ?_
          refine ce_then ?_
          refine cw_seq ?_
          refine cw_seq ?_
          refine cw_region ?_
          refine wl_v (ov_assign rfl) rfl rfl rfl ?_
          refine wl_nil ?_
          refine ce_then ?_
          refine cw_block ?_
          refine cw_loop1 (fun (k : Nat) => [(4, .slice A2_16 ((forcV ys_14).length) (k2_16)), (5, .slice A2_37 ((allV ys_14).length) ((allV ys_14).length)), (6, .slice A2_40 ((allV (complV ys_14)).length) ((allV (complV ys_14)).length)), (7, .int .i64 (((k : Nat) : Int)))]) (fun (k : Nat) => [row 25 2 A2_40 ((allV (complV ys_14)).length) (c2_40) (cells fG (gsOf (complV ys_14).length hs_40)), nest 43 2 fE hs_40 (allV (complV ys_14)), row 3 1 A2_39 ((complV ys_14).length) (c2_39) (cells fI (complV ys_14)), row 25 2 A2_37 ((allV ys_14).length) (c2_37) (cells fG (gsOf ys_14.length hs_37)), nest 43 2 fE hs_37 (allV ys_14), row 43 2 A2_19 ((forcV ys_14).length) (c2_19) (cells fE (forcV ys_14)), row 43 2 A2_16 ((forcV ys_14).length) (c2_16) (cells fE (forcV ys_14)), row 3 1 A2_14 (ys_14.length) (c2_14) (cells fI ys_14)]) (fun (k : Nat) => True) (fun (k : Nat) => (forcV ys_14).length - k) 0 trivial (.cons rfl (.cons rfl (.cons rfl (.cons (congrArg (fun z => some (Value.int .i64 z)) (show 0 = ((0 : Nat) : Int) by first | omega | rfl | (simp; done))) (.nil))))) (.cons (.head) (.cons (.head) (.cons (.head) (.cons (.head) (.cons (.head) (.cons (.head) (.cons (.head) (.cons (.head) (.nil))))))))) ?_
          intro R0 k hk hR0
          refine cw_seq ?_
          refine cw_seq ?_
          refine cw_region ?_
          refine wl_v (ov_move rfl) rfl rfl rfl ?_
          refine wl_v (ov_move rfl) rfl rfl rfl ?_
          refine wl_v (ov_len (sliceI_spec sI23) rfl) rfl rfl rfl ?_
          refine wl_if (ov_lss rfl rfl) rfl rfl rfl (fun c44 => ?_) (fun c44 => ?_)
          ·
            have hkm := getD_mem (xs := forcV ys_14) (k := k) (0, 0) (by omega)
            have hek := forcV_mem hkm
            refine wl_nil ?_
            refine ce_then ?_
            refine cw_true rfl ?_
            refine cw_skip ?_
            refine ce_then ?_
            refine cw_seq ?_
            refine cw_block ?_
            refine cw_seq ?_
            refine cw_seq ?_
            refine cw_region ?_
            refine wl_v (ov_assign rfl) rfl rfl rfl ?_
            refine wl_nil ?_
            refine ce_then ?_
            refine cw_block ?_
            refine cw_loop1 (fun (i : Nat) => [(4, .slice A2_16 ((forcV ys_14).length) (k2_16)), (5, .slice A2_37 ((allV ys_14).length) ((allV ys_14).length)), (6, .slice A2_40 ((allV (complV ys_14)).length) ((allV (complV ys_14)).length)), (7, .int .i64 (((k : Nat) : Int))), (8, .int .i64 (((i : Nat) : Int)))]) (fun (i : Nat) => [row 25 2 A2_40 ((allV (complV ys_14)).length) (c2_40) (cells fG (gsOf (complV ys_14).length hs_40)), nest 43 2 fE hs_40 (allV (complV ys_14)), row 3 1 A2_39 ((complV ys_14).length) (c2_39) (cells fI (complV ys_14)), row 25 2 A2_37 ((allV ys_14).length) (c2_37) (cells fG (gsOf ys_14.length hs_37)), nest 43 2 fE hs_37 (allV ys_14), row 43 2 A2_19 ((forcV ys_14).length) (c2_19) (cells fE (forcV ys_14)), row 43 2 A2_16 ((forcV ys_14).length) (c2_16) (cells fE (forcV ys_14)), row 3 1 A2_14 (ys_14.length) (c2_14) (cells fI ys_14)]) (fun (i : Nat) => True) (fun (i : Nat) => (allV ys_14).length - i) 0 trivial (.cons rfl (.cons rfl (.cons rfl (.cons rfl (.cons (congrArg (fun z => some (Value.int .i64 z)) (show 0 = ((0 : Nat) : Int) by first | omega | rfl | (simp; done))) (.nil)))))) (.cons (.head) (.cons (.head) (.cons (.head) (.cons (.head) (.cons (.head) (.cons (.head) (.cons (.head) (.cons (.head) (.nil))))))))) ?_
            intro R1 i hk1 hR1
            refine cw_seq ?_
            refine cw_seq ?_
            refine cw_region ?_
            refine wl_v (ov_move rfl) rfl rfl rfl ?_
            refine wl_v (ov_move rfl) rfl rfl rfl ?_
            refine wl_v (ov_len (sliceI_spec sI38) rfl) rfl rfl rfl ?_
            refine wl_if (ov_lss rfl rfl) rfl rfl rfl (fun c50 => ?_) (fun c50 => ?_)
            ·
              refine wl_nil ?_
              refine ce_then ?_
              refine cw_true rfl ?_
              refine cw_skip ?_
              refine ce_then ?_
              refine cw_seq ?_
              refine cw_block ?_
              refine cw_seq ?_
              refine cw_draw mixO [] (.cons (.head) (.cons (.head) (.cons (.head) (.cons (.head) (.cons (.head) (.cons (.head) (.cons (.head) (.cons (.head) (.nil))))))))) rfl ?_
              refine wg_takep (i := 0) rfl (ov_move rfl) rfl rfl rfl (by kernel_rfl) (by kernel_rfl) (by kernel_rfl) rfl ?_
              refine wg_takep (i := 1) rfl (ov_move rfl) rfl rfl rfl (by kernel_rfl) (by kernel_rfl) (by kernel_rfl) rfl ?_
              refine stg_fact (nest_facts (List.Mem.tail _ (List.Mem.tail _ (List.Mem.tail _ (List.Mem.tail _ (List.Mem.head _)))))) (fun hnf55 => ?_)
              have hnl55 := hnf55.1
              refine wg_take (i := 2) rfl (ov_index (k := i) (c := (allV ys_14).length) sI38 tI25 rfl rfl (some_holds (q := i * 2) (holds_row (List.Mem.tail _ (List.Mem.tail _ (List.Mem.tail _ (List.Mem.head _))))) (by rw [cells_length fG_len]; have hlt : i < (gsOf ys_14.length hs_37).length := (by omega); omega)) (show i < (allV ys_14).length from (by omega))) rfl rfl rfl (by kernel_rfl) (by kernel_rfl) (by kernel_rfl) (by kernel_rfl) ?_
              refine wg_take (i := 3) rfl (ov_loadAgg (vs := [.int .i64 (((ys_14.length : Nat) : Int)), .slice ((hs_37.getD i (none, 0, 0)).1) (((allV ys_14).getD i []).length) ((hs_37.getD i (none, 0, 0)).2.2)]) tI25 (holds_row (List.Mem.tail _ (List.Mem.tail _ (List.Mem.tail _ (List.Mem.head _))))) rfl (some_holds (q := i * 2) (holds_row (List.Mem.tail _ (List.Mem.tail _ (List.Mem.tail _ (List.Mem.head _))))) (by rw [cells_length fG_len]; have hlt : i < (gsOf ys_14.length hs_37).length := (by omega); omega)) (elem_fG hnf55 (show i < (allV ys_14).length from (by omega))) rfl) rfl rfl rfl (by kernel_rfl) (by kernel_rfl) (by kernel_rfl) (by kernel_rfl) ?_
              refine wg_takep (i := 4) rfl (ov_move rfl) rfl rfl rfl (by kernel_rfl) (by kernel_rfl) (by kernel_rfl) rfl ?_
              refine wg_takep (i := 5) rfl (ov_move rfl) rfl rfl rfl (by kernel_rfl) (by kernel_rfl) (by kernel_rfl) rfl ?_
              refine wg_take (i := 6) rfl (ov_index (k := k) (c := k2_16) sI23 tI43 rfl rfl (some_holds (q := k * 2) (holds_row (List.Mem.tail _ (List.Mem.tail _ (List.Mem.tail _ (List.Mem.tail _ (List.Mem.tail _ (List.Mem.tail _ (List.Mem.head _)))))))) (by rw [cells_length fE_len]; have hlt : k < (forcV ys_14).length := (by omega); omega)) (show k < (forcV ys_14).length from (by omega))) rfl rfl rfl (by kernel_rfl) (by kernel_rfl) (by kernel_rfl) (by kernel_rfl) ?_
              refine wg_take (i := 7) rfl (ov_fieldAddr fI43_0 (some_holds (q := k * 2) (holds_row (List.Mem.tail _ (List.Mem.tail _ (List.Mem.tail _ (List.Mem.tail _ (List.Mem.tail _ (List.Mem.tail _ (List.Mem.head _)))))))) (by rw [cells_length fE_len]; have hlt : k < (forcV ys_14).length := (by omega); omega)) rfl) rfl rfl rfl (by kernel_rfl) (by kernel_rfl) (by kernel_rfl) (by kernel_rfl) ?_
              refine wg_take (i := 8) rfl (ov_load tI3 (holds_row (List.Mem.tail _ (List.Mem.tail _ (List.Mem.tail _ (List.Mem.tail _ (List.Mem.tail _ (List.Mem.tail _ (List.Mem.head _)))))))) rfl (get_fE0 (show k < (forcV ys_14).length from (by omega)))) rfl rfl rfl (by kernel_rfl) (by kernel_rfl) (by kernel_rfl) (by kernel_rfl) ?_
              refine wg_takep (i := 9) rfl (ov_move rfl) rfl rfl rfl (by kernel_rfl) (by kernel_rfl) (by kernel_rfl) rfl ?_
              refine wg_takep (i := 10) rfl (ov_move rfl) rfl rfl rfl (by kernel_rfl) (by kernel_rfl) (by kernel_rfl) rfl ?_
              refine wg_take (i := 11) rfl (ov_index (k := k) (c := k2_16) sI23 tI43 rfl rfl (some_holds (q := k * 2) (holds_row (List.Mem.tail _ (List.Mem.tail _ (List.Mem.tail _ (List.Mem.tail _ (List.Mem.tail _ (List.Mem.tail _ (List.Mem.head _)))))))) (by rw [cells_length fE_len]; have hlt : k < (forcV ys_14).length := (by omega); omega)) (show k < (forcV ys_14).length from (by omega))) rfl rfl rfl (by kernel_rfl) (by kernel_rfl) (by kernel_rfl) (by kernel_rfl) ?_
              refine wg_take (i := 12) rfl (ov_fieldAddr fI43_1 (some_holds (q := k * 2) (holds_row (List.Mem.tail _ (List.Mem.tail _ (List.Mem.tail _ (List.Mem.tail _ (List.Mem.tail _ (List.Mem.tail _ (List.Mem.head _)))))))) (by rw [cells_length fE_len]; have hlt : k < (forcV ys_14).length := (by omega); omega)) rfl) rfl rfl rfl (by kernel_rfl) (by kernel_rfl) (by kernel_rfl) (by kernel_rfl) ?_
              refine wg_take (i := 13) rfl (ov_load tI3 (holds_row (List.Mem.tail _ (List.Mem.tail _ (List.Mem.tail _ (List.Mem.tail _ (List.Mem.tail _ (List.Mem.tail _ (List.Mem.head _)))))))) rfl (get_fE1 (show k < (forcV ys_14).length from (by omega)))) rfl rfl rfl (by kernel_rfl) (by kernel_rfl) (by kernel_rfl) (by kernel_rfl) ?_
              refine wg_one (i := 14) (by kernel_rfl) ?_
              refine go_r rfl rfl rfl rfl (or_call (fv := []) (vs := [.agg #[.int .i64 (((ys_14.length : Nat) : Int)), .slice ((hs_37.getD i (none, 0, 0)).1) (((allV ys_14).getD i []).length) ((hs_37.getD i (none, 0, 0)).2.2)], .int .i64 (((forcV ys_14).getD k (0, 0)).1), .int .i64 (((forcV ys_14).getD k (0, 0)).2)]) (cs := []) en24 rfl rfl (call_v (fun w hw => HasEdgeI_c w ((ys_14.length : Nat) : Int) ((hs_37.getD i (none, 0, 0)).1) (((allV ys_14).getD i []).length) ((hs_37.getD i (none, 0, 0)).2.2) ((allV ys_14).getD i []) (((forcV ys_14).getD k (0, 0)).1) (((forcV ys_14).getD k (0, 0)).2) ((holds_nest (List.Mem.tail _ (List.Mem.tail _ (List.Mem.tail _ (List.Mem.tail _ (List.Mem.head _))))) (show i < (allV ys_14).length from (by omega))) w hw) rfl (hnf55.2 i (show i < (allV ys_14).length from (by omega))).2 (by have := (allV_gr (xs := ys_14) (i := i) (by omega)).len21 (by omega); omega) (by first | assumption | omega | (simp; omega))))) (kt_if rfl (fun c67 => ?_) (fun c67 => ?_))
              ·
                refine gk (.cons (.head) (.cons (.head) (.cons (.head) (.cons (.head) (.cons (.head) (.cons (.head) (.cons (.head) (.cons (.head) (.nil))))))))) ?_
                refine wg_takep (i := 15) rfl (ov_not rfl) rfl rfl rfl (by kernel_rfl) (by kernel_rfl) (by kernel_rfl) rfl ?_
                refine wg_done (by kernel_rfl) ?_
                refine ce_then ?_
                refine cw_false rfl ?_
                refine cw_skip ?_
                refine ce_block ?_
                refine ce_then ?_
                refine cw_region ?_
                refine wl_v (ov_move rfl) rfl rfl rfl ?_
                refine wl_v (ov_add (r := ((i + 1 : Nat) : Int)) rfl rfl rfl (by omega)) rfl rfl rfl ?_
                refine wl_v (ov_assign rfl) rfl rfl rfl ?_
                refine wl_nil ?_
                exact fun ac_ w_ hs_ => hR1 (i + 1) trivial (by omega) ac_ w_ (hs_.weaken (.cons rfl (.cons rfl (.cons rfl (.cons rfl (.cons rfl (.nil)))))) (.cons (.head) (.cons (.head) (.cons (.head) (.cons (.head) (.cons (.head) (.cons (.head) (.cons (.head) (.cons (.head) (.nil))))))))))
              ·
                exact absurd ⟨(allV_gr (by omega)).valid (by omega), by rw [minmax_lt hek.2.1.2.1]; exact hek.2.2 i (by omega)⟩ c67
            ·
              refine wl_nil ?_
              refine ce_then ?_
              refine cw_false rfl ?_
              refine cw_exit ?_
              refine ce_then_exit ?_
              refine ce_then_exit ?_
              refine ce_hit ?_
              refine ce_then ?_
              refine cw_seq ?_
              refine cw_region ?_
              refine wl_v (ov_assign rfl) rfl rfl rfl ?_
              refine wl_nil ?_
              refine ce_then ?_
              refine cw_block ?_
              refine cw_loop1 (fun (i : Nat) => [(4, .slice A2_16 ((forcV ys_14).length) (k2_16)), (5, .slice A2_37 ((allV ys_14).length) ((allV ys_14).length)), (6, .slice A2_40 ((allV (complV ys_14)).length) ((allV (complV ys_14)).length)), (7, .int .i64 (((k : Nat) : Int))), (9, .int .i64 (((i : Nat) : Int)))]) (fun (i : Nat) => [row 25 2 A2_40 ((allV (complV ys_14)).length) (c2_40) (cells fG (gsOf (complV ys_14).length hs_40)), nest 43 2 fE hs_40 (allV (complV ys_14)), row 3 1 A2_39 ((complV ys_14).length) (c2_39) (cells fI (complV ys_14)), row 25 2 A2_37 ((allV ys_14).length) (c2_37) (cells fG (gsOf ys_14.length hs_37)), nest 43 2 fE hs_37 (allV ys_14), row 43 2 A2_19 ((forcV ys_14).length) (c2_19) (cells fE (forcV ys_14)), row 43 2 A2_16 ((forcV ys_14).length) (c2_16) (cells fE (forcV ys_14)), row 3 1 A2_14 (ys_14.length) (c2_14) (cells fI ys_14)]) (fun (i : Nat) => True) (fun (i : Nat) => (allV (complV ys_14)).length - i) 0 trivial (.cons rfl (.cons rfl (.cons rfl (.cons rfl (.cons (congrArg (fun z => some (Value.int .i64 z)) (show 0 = ((0 : Nat) : Int) by first | omega | rfl | (simp; done))) (.nil)))))) (.cons (.head) (.cons (.head) (.cons (.head) (.cons (.head) (.cons (.head) (.cons (.head) (.cons (.head) (.cons (.head) (.nil))))))))) ?_
              intro R2 i hk2 hR2
              refine cw_seq ?_
              refine cw_seq ?_
              refine cw_region ?_
              refine wl_v (ov_move rfl) rfl rfl rfl ?_
              refine wl_v (ov_move rfl) rfl rfl rfl ?_
              refine wl_v (ov_len (sliceI_spec sI38) rfl) rfl rfl rfl ?_
              refine wl_if (ov_lss rfl rfl) rfl rfl rfl (fun c72 => ?_) (fun c72 => ?_)
              ·
                refine wl_nil ?_
                refine ce_then ?_
                refine cw_true rfl ?_
                refine cw_skip ?_
                refine ce_then ?_
                refine cw_seq ?_
                refine cw_block ?_
                refine cw_seq ?_
                refine cw_draw mixO [] (.cons (.head) (.cons (.head) (.cons (.head) (.cons (.head) (.cons (.head) (.cons (.head) (.cons (.head) (.cons (.head) (.nil))))))))) rfl ?_
                refine wg_takep (i := 0) rfl (ov_move rfl) rfl rfl rfl (by kernel_rfl) (by kernel_rfl) (by kernel_rfl) rfl ?_
                refine wg_takep (i := 1) rfl (ov_move rfl) rfl rfl rfl (by kernel_rfl) (by kernel_rfl) (by kernel_rfl) rfl ?_
                refine stg_fact (nest_facts (List.Mem.tail _ (List.Mem.head _))) (fun hnf77 => ?_)
                have hnl77 := hnf77.1
                refine wg_take (i := 2) rfl (ov_index (k := i) (c := (allV (complV ys_14)).length) sI38 tI25 rfl rfl (some_holds (q := i * 2) (holds_row (List.Mem.head _)) (by rw [cells_length fG_len]; have hlt : i < (gsOf (complV ys_14).length hs_40).length := (by omega); omega)) (show i < (allV (complV ys_14)).length from (by omega))) rfl rfl rfl (by kernel_rfl) (by kernel_rfl) (by kernel_rfl) (by kernel_rfl) ?_
                refine wg_take (i := 3) rfl (ov_loadAgg (vs := [.int .i64 ((((complV ys_14).length : Nat) : Int)), .slice ((hs_40.getD i (none, 0, 0)).1) (((allV (complV ys_14)).getD i []).length) ((hs_40.getD i (none, 0, 0)).2.2)]) tI25 (holds_row (List.Mem.head _)) rfl (some_holds (q := i * 2) (holds_row (List.Mem.head _)) (by rw [cells_length fG_len]; have hlt : i < (gsOf (complV ys_14).length hs_40).length := (by omega); omega)) (elem_fG hnf77 (show i < (allV (complV ys_14)).length from (by omega))) rfl) rfl rfl rfl (by kernel_rfl) (by kernel_rfl) (by kernel_rfl) (by kernel_rfl) ?_
                refine wg_takep (i := 4) rfl (ov_move rfl) rfl rfl rfl (by kernel_rfl) (by kernel_rfl) (by kernel_rfl) rfl ?_
                refine wg_takep (i := 5) rfl (ov_move rfl) rfl rfl rfl (by kernel_rfl) (by kernel_rfl) (by kernel_rfl) rfl ?_
                refine wg_take (i := 6) rfl (ov_index (k := k) (c := k2_16) sI23 tI43 rfl rfl (some_holds (q := k * 2) (holds_row (List.Mem.tail _ (List.Mem.tail _ (List.Mem.tail _ (List.Mem.tail _ (List.Mem.tail _ (List.Mem.tail _ (List.Mem.head _)))))))) (by rw [cells_length fE_len]; have hlt : k < (forcV ys_14).length := (by omega); omega)) (show k < (forcV ys_14).length from (by omega))) rfl rfl rfl (by kernel_rfl) (by kernel_rfl) (by kernel_rfl) (by kernel_rfl) ?_
                refine wg_take (i := 7) rfl (ov_fieldAddr fI43_0 (some_holds (q := k * 2) (holds_row (List.Mem.tail _ (List.Mem.tail _ (List.Mem.tail _ (List.Mem.tail _ (List.Mem.tail _ (List.Mem.tail _ (List.Mem.head _)))))))) (by rw [cells_length fE_len]; have hlt : k < (forcV ys_14).length := (by omega); omega)) rfl) rfl rfl rfl (by kernel_rfl) (by kernel_rfl) (by kernel_rfl) (by kernel_rfl) ?_
                refine wg_take (i := 8) rfl (ov_load tI3 (holds_row (List.Mem.tail _ (List.Mem.tail _ (List.Mem.tail _ (List.Mem.tail _ (List.Mem.tail _ (List.Mem.tail _ (List.Mem.head _)))))))) rfl (get_fE0 (show k < (forcV ys_14).length from (by omega)))) rfl rfl rfl (by kernel_rfl) (by kernel_rfl) (by kernel_rfl) (by kernel_rfl) ?_
                refine wg_takep (i := 9) rfl (ov_move rfl) rfl rfl rfl (by kernel_rfl) (by kernel_rfl) (by kernel_rfl) rfl ?_
                refine wg_takep (i := 10) rfl (ov_move rfl) rfl rfl rfl (by kernel_rfl) (by kernel_rfl) (by kernel_rfl) rfl ?_
                refine wg_take (i := 11) rfl (ov_index (k := k) (c := k2_16) sI23 tI43 rfl rfl (some_holds (q := k * 2) (holds_row (List.Mem.tail _ (List.Mem.tail _ (List.Mem.tail _ (List.Mem.tail _ (List.Mem.tail _ (List.Mem.tail _ (List.Mem.head _)))))))) (by rw [cells_length fE_len]; have hlt : k < (forcV ys_14).length := (by omega); omega)) (show k < (forcV ys_14).length from (by omega))) rfl rfl rfl (by kernel_rfl) (by kernel_rfl) (by kernel_rfl) (by kernel_rfl) ?_
                refine wg_take (i := 12) rfl (ov_fieldAddr fI43_1 (some_holds (q := k * 2) (holds_row (List.Mem.tail _ (List.Mem.tail _ (List.Mem.tail _ (List.Mem.tail _ (List.Mem.tail _ (List.Mem.tail _ (List.Mem.head _)))))))) (by rw [cells_length fE_len]; have hlt : k < (forcV ys_14).length := (by omega); omega)) rfl) rfl rfl rfl (by kernel_rfl) (by kernel_rfl) (by kernel_rfl) (by kernel_rfl) ?_
                refine wg_take (i := 13) rfl (ov_load tI3 (holds_row (List.Mem.tail _ (List.Mem.tail _ (List.Mem.tail _ (List.Mem.tail _ (List.Mem.tail _ (List.Mem.tail _ (List.Mem.head _)))))))) rfl (get_fE1 (show k < (forcV ys_14).length from (by omega)))) rfl rfl rfl (by kernel_rfl) (by kernel_rfl) (by kernel_rfl) (by kernel_rfl) ?_
                refine wg_one (i := 14) (by kernel_rfl) ?_
                refine go_r rfl rfl rfl rfl (or_call (fv := []) (vs := [.agg #[.int .i64 ((((complV ys_14).length : Nat) : Int)), .slice ((hs_40.getD i (none, 0, 0)).1) (((allV (complV ys_14)).getD i []).length) ((hs_40.getD i (none, 0, 0)).2.2)], .int .i64 (((forcV ys_14).getD k (0, 0)).1), .int .i64 (((forcV ys_14).getD k (0, 0)).2)]) (cs := []) en24 rfl rfl (call_v (fun w hw => HasEdgeI_c w (((complV ys_14).length : Nat) : Int) ((hs_40.getD i (none, 0, 0)).1) (((allV (complV ys_14)).getD i []).length) ((hs_40.getD i (none, 0, 0)).2.2) ((allV (complV ys_14)).getD i []) (((forcV ys_14).getD k (0, 0)).1) (((forcV ys_14).getD k (0, 0)).2) ((holds_nest (List.Mem.tail _ (List.Mem.head _)) (show i < (allV (complV ys_14)).length from (by omega))) w hw) rfl (hnf77.2 i (show i < (allV (complV ys_14)).length from (by omega))).2 (by have := (allV_gr (xs := complV ys_14) (i := i) (by omega)).len21 (by omega); omega) (by first | assumption | omega | (simp; omega))))) (kt_if rfl (fun c89 => ?_) (fun c89 => ?_))
                ·
                  exact absurd c89.2 (by rw [minmax_lt hek.2.1.2.1]; exact forc_other hV (by omega) hkm (by omega))
                ·
                  refine gk (.cons (.head) (.cons (.head) (.cons (.head) (.cons (.head) (.cons (.head) (.cons (.head) (.cons (.head) (.cons (.head) (.nil))))))))) ?_
                  refine wg_done (by kernel_rfl) ?_
                  refine ce_then ?_
                  refine cw_false rfl ?_
                  refine cw_skip ?_
                  refine ce_block ?_
                  refine ce_then ?_
                  refine cw_region ?_
                  refine wl_v (ov_move rfl) rfl rfl rfl ?_
                  refine wl_v (ov_add (r := ((i + 1 : Nat) : Int)) rfl rfl rfl (by omega)) rfl rfl rfl ?_
                  refine wl_v (ov_assign rfl) rfl rfl rfl ?_
                  refine wl_nil ?_
                  exact fun ac_ w_ hs_ => hR2 (i + 1) trivial (by omega) ac_ w_ (hs_.weaken (.cons rfl (.cons rfl (.cons rfl (.cons rfl (.cons rfl (.nil)))))) (.cons (.head) (.cons (.head) (.cons (.head) (.cons (.head) (.cons (.head) (.cons (.head) (.cons (.head) (.cons (.head) (.nil))))))))))
              ·
                refine wl_nil ?_
                refine ce_then ?_
                refine cw_false rfl ?_
                refine cw_exit ?_
                refine ce_then_exit ?_
                refine ce_then_exit ?_
                refine ce_hit ?_
                refine ce_block ?_
                refine ce_then ?_
                refine cw_region ?_
                refine wl_v (ov_move rfl) rfl rfl rfl ?_
                refine wl_v (ov_add (r := ((k + 1 : Nat) : Int)) rfl rfl rfl (by omega)) rfl rfl rfl ?_
                refine wl_v (ov_assign rfl) rfl rfl rfl ?_
                refine wl_nil ?_
                exact fun ac_ w_ hs_ => hR0 (k + 1) trivial (by omega) ac_ w_ (hs_.weaken (.cons rfl (.cons rfl (.cons rfl (.cons rfl (.nil))))) (.cons (.head) (.cons (.head) (.cons (.head) (.cons (.head) (.cons (.head) (.cons (.head) (.cons (.head) (.cons (.head) (.nil))))))))))
          ·
            refine wl_nil ?_
            refine ce_then ?_
            refine cw_false rfl ?_
            refine cw_exit ?_
            refine ce_then_exit ?_
            refine ce_then_exit ?_
            refine ce_hit ?_
            refine ce_then ?_
            refine cw_seq ?_
            refine cw_region ?_
            refine wl_v (ov_move rfl) rfl rfl rfl ?_
            refine wl_v (ov_len (sliceI_spec sI38) rfl) rfl rfl rfl ?_
            refine wl_if (ov_neq rfl rfl) rfl rfl rfl (fun c92 => ?_) (fun c92 => ?_)
            ·
              refine wl_v (ov_move rfl) rfl rfl rfl ?_
              refine wl_not rfl rfl rfl rfl rfl rfl ?_
              refine wl_not rfl rfl rfl rfl rfl rfl ?_
              refine wl_not rfl rfl rfl rfl rfl rfl ?_
              refine wl_not rfl rfl rfl rfl rfl rfl ?_
              refine wl_not rfl rfl rfl rfl rfl rfl ?_
              refine wl_not rfl rfl rfl rfl rfl rfl ?_
              refine wl_v (ov_pick_t rfl rfl) rfl rfl rfl ?_
              refine wl_v (ov_assign rfl) rfl rfl rfl ?_
              refine wl_nil ?_
              refine ce_then ?_
              refine cw_ret ?_
              refine ce_results (v := .bool true) (res1 rfl (rv_t rfl)) (fun w' hw => ?_)
              exact ⟨rfl, (Keep.nil.ss hw).to_new⟩
            ·
              refine wl_v (ov_move rfl) rfl rfl rfl ?_
              refine wl_go rfl rfl ?_
              refine wl_v (ov_move rfl) rfl rfl rfl ?_
              refine wl_go rfl rfl ?_
              refine wl_v (ov_move rfl) rfl rfl rfl ?_
              refine wl_go rfl rfl ?_
              refine ct_fact (nest_facts (List.Mem.tail _ (List.Mem.tail _ (List.Mem.tail _ (List.Mem.tail _ (List.Mem.head _)))))) (fun hnf96 => ?_)
              have hnl96 := hnf96.1
              refine wl_v (ov_index (k := 0) (c := (allV ys_14).length) sI38 tI25 rfl rfl (some_holds (q := 0 * 2) (holds_row (List.Mem.tail _ (List.Mem.tail _ (List.Mem.tail _ (List.Mem.head _))))) (by rw [cells_length fG_len]; have hlt : 0 < (gsOf ys_14.length hs_37).length := (by omega); omega)) (show 0 < (allV ys_14).length from (by omega))) rfl rfl rfl ?_
              refine wl_go rfl rfl ?_
              refine wl_v (ov_fieldAddr fI25_1 (some_holds (q := 0 * 2) (holds_row (List.Mem.tail _ (List.Mem.tail _ (List.Mem.tail _ (List.Mem.head _))))) (by rw [cells_length fG_len]; have hlt : 0 < (gsOf ys_14.length hs_37).length := (by omega); omega)) rfl) rfl rfl rfl ?_
              refine wl_go rfl rfl ?_
              refine wl_v (ov_load tI23 (holds_row (List.Mem.tail _ (List.Mem.tail _ (List.Mem.tail _ (List.Mem.head _))))) rfl (get_fG1n hnf96 (show 0 < (allV ys_14).length from (by omega)))) rfl rfl rfl ?_
              refine wl_go rfl rfl ?_
              refine wl_r (or_call (fv := []) (vs := [.slice A2_16 ((forcV ys_14).length) (k2_16), .slice ((hs_37.getD 0 (none, 0, 0)).1) (((allV ys_14).getD 0 []).length) ((hs_37.getD 0 (none, 0, 0)).2.2)]) (cs := []) en19 rfl rfl (call_v (fun w hw => equalEdges_c w A2_16 ((forcV ys_14).length) k2_16 (forcV ys_14) ((hs_37.getD 0 (none, 0, 0)).1) (((allV ys_14).getD 0 []).length) ((hs_37.getD 0 (none, 0, 0)).2.2) ((allV ys_14).getD 0 []) ((holds_row (List.Mem.tail _ (List.Mem.tail _ (List.Mem.tail _ (List.Mem.tail _ (List.Mem.tail _ (List.Mem.tail _ (List.Mem.head _)))))))) w hw) rfl h_16 ((holds_nest (List.Mem.tail _ (List.Mem.tail _ (List.Mem.tail _ (List.Mem.tail _ (List.Mem.head _))))) (show 0 < (allV ys_14).length from (by omega))) w hw) rfl (hnf96.2 0 (show 0 < (allV ys_14).length from (by omega))).2 (by omega)))) rfl rfl (kt_if rfl (fun c99 => ?_) (fun c99 => ?_))
              ·
                refine wl_v (ov_pick_f rfl rfl) rfl rfl rfl ?_
                refine wl_v (ov_assign rfl) rfl rfl rfl ?_
                refine wl_nil ?_
                refine ce_then ?_
                refine cw_ret ?_
                refine ce_results (v := .bool true) (res1 rfl (rv_t rfl)) (fun w' hw => ?_)
                exact ⟨rfl, (Keep.nil.ss hw).to_new⟩
              ·
                exact absurd (forcV_one (by omega)) c99
      ·
        refine wl_go rfl rfl ?_
        refine wl_v (ov_not rfl) rfl rfl rfl ?_
        refine wl_v (ov_pick_f rfl rfl) rfl rfl rfl ?_
        refine wl_v (ov_move rfl) rfl rfl rfl ?_
        refine wl_not rfl rfl rfl rfl rfl rfl ?_
        refine wl_not rfl rfl rfl rfl rfl rfl ?_
        refine wl_not rfl rfl rfl rfl rfl rfl ?_
        refine wl_v (ov_pick_t rfl rfl) rfl rfl rfl ?_
        refine wl_nil ?_
        refine ce_then ?_
        refine cw_true rfl ?_
        refine cw_seq ?_
        refine cw_region ?_
        refine wl_v (ov_move rfl) rfl rfl rfl ?_
        refine wl_v (ov_move rfl) rfl rfl rfl ?_
        refine wl_r (or_call (fv := []) (vs := [.slice A2_14 (ys_14.length) (c2_14)]) (cs := []) en20 rfl rfl (call_x2 (fun w hw => ForcS_c w A2_14 ys_14.length c2_14 ys_14 ((holds_row (List.Mem.tail _ (List.Mem.tail _ (List.Mem.head _)))) w hw) rfl h_14.1 (by first | assumption | omega | (simp; omega))))) rfl rfl (kt2p rfl (fun A2_34 c2_34 h_34 => ?_))
        refine wl_r (or_call (fv := []) (vs := [.slice A2_16 ((forcV ys_14).length) (k2_16), .slice A2_34 ((forcV ys_14).length) (c2_34)]) (cs := []) en19 rfl rfl (call_v (fun w hw => equalEdges_c w A2_16 ((forcV ys_14).length) k2_16 (forcV ys_14) A2_34 ((forcV ys_14).length) c2_34 (forcV ys_14) ((holds_row (List.Mem.tail _ (List.Mem.tail _ (List.Mem.head _)))) w hw) rfl h_16 ((holds_row (List.Mem.head _)) w hw) rfl h_34 (by omega)))) rfl rfl (kt_if rfl (fun c35 => ?_) (fun c35 => ?_))
        ·
          refine wl_v (ov_assign rfl) rfl rfl rfl ?_
          refine wl_nil ?_
          refine ce_then ?_
          refine cw_ret ?_
          refine ce_then_ret ?_
          refine ce_results (v := .bool true) (res1 rfl (rv_t rfl)) (fun w' hw => ?_)
          exact ⟨rfl, (Keep.nil.ss hw).to_new⟩
        ·
          exact absurd rfl c35
    ·
      exact absurd rfl c20
end Go.Proofs.Ytfjgfocjogfodaa.LFnForcedEdges
