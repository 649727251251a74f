/- Walks of functions of the given program: each returns what its Lean function says and leaves the memory that was there as it was. Conditions: those of each theorem. -/
import Derived.Test.YtfjgfocjogfodaaSm
import Derived.Test.YtfjgfocjogfodaaProg
import Derived.Test.YtfjgfocjogfodaaPl
import Derived.Test.YtfjgfocjogfodaaPo
import Derived.Test.YtfjgfocjogfodaaPd
import Derived.Test.YtfjgfocjogfodaaPe
import Derived.Test.YtfjgfocjogfodaaPh
import Derived.Test.YtfjgfocjogfodaaPm
import Derived.Test.YtfjgfocjogfodaaPc
import Derived.Test.YtfjgfocjogfodaaPs
import Derived.Test.YtfjgfocjogfodaaPt
import Derived.Test.YtfjgfocjogfodaaPu
import Derived.Test.YtfjgfocjogfodaaPv
import Derived.Test.YtfjgfocjogfodaaPw
import Derived.Test.YtfjgfocjogfodaaT
import Derived.Test.YtfjgfocjogfodaaW2
import Derived.Test.YtfjgfocjogfodaaW12
import Derived.Test.YtfjgfocjogfodaaW21
import Derived.Test.YtfjgfocjogfodaaW22
import Derived.Test.YtfjgfocjogfodaaW23
import Derived.Test.YtfjgfocjogfodaaW37
import Derived.KernelRfl
namespace Go.Proofs.Ytfjgfocjogfodaa.LFnPackDegrees
open Go.Sx Go.RowKit Go.Proofs.Ytfjgfocjogfodaa.T Go.Proofs.Ytfjgfocjogfodaa.W2 Go.Proofs.Ytfjgfocjogfodaa.W12 Go.Proofs.Ytfjgfocjogfodaa.W21 Go.Proofs.Ytfjgfocjogfodaa.W22 Go.Proofs.Ytfjgfocjogfodaa.W23 Go.Proofs.Ytfjgfocjogfodaa.W37
open Go.Plain
set_option linter.unusedVariables false
set_option maxRecDepth 100000 in
theorem FnPackDegrees_c (w : World) (Ar : Option Addr) (nr : Nat) (cr : Nat) (bs : List (Nat)) (hAr : At w Ar (cells fY bs)) (eAr : bs.length = nr) (lAr : nr ≤ cr) (hb : ∀ x ∈ bs, x < 256) : Calls Try.prog 8 #[.slice Ar (nr) (cr)] w (Ret fun rv w' => rv = .bool true ∧ New w w' []) := by
  have oAr := hAr.atB
  subst eAr
  refine fn_enter (args := [.slice Ar (bs.length) (cr)]) Try.func8 rfl Try.ntmps8 rfl (SS.start w) ?_
  refine cw_seq ?_
  refine cw_region ?_
  refine wl_v (ov_assign rfl) rfl rfl rfl ?_
  refine wl_nil ?_
  refine ce_then ?_
  refine cw_seq ?_
  refine cw_seq ?_
  refine cw_region ?_
  refine wl_v (ov_move rfl) rfl rfl rfl ?_
  refine wl_v (ov_len (sliceI_spec sI22) rfl) rfl rfl rfl ?_
  refine wl_if (ov_gtr rfl rfl) rfl rfl rfl (fun c23 => ?_) (fun c23 => ?_)
  ·
    refine wl_nil ?_
    refine ce_then ?_
    refine cw_true rfl ?_
    refine cw_seq ?_
    refine cw_region ?_
    refine wl_v (ov_assign rfl) rfl rfl rfl ?_
    refine wl_nil ?_
    refine ce_then ?_
    refine cw_ret ?_
    refine ce_then_ret ?_
    refine ce_results (v := .bool true) (res1 rfl (rv_t rfl)) (fun w' hw => ?_)
    exact ⟨rfl, (Keep.nil.ss hw).to_new⟩
  ·
    refine wl_nil ?_
    refine ce_then ?_
    refine cw_false rfl ?_
    refine cw_skip ?_
    refine ce_then ?_
    refine cw_seq ?_
    refine cw_region ?_
    refine wl_v (ov_move rfl) rfl rfl rfl ?_
    refine wl_r (or_call (fv := []) (vs := [.slice Ar (bs.length) (cr)]) (cs := []) en35 rfl rfl (call_x6 (fun w hw => DrawPack_c w Ar bs.length cr bs ((holds_old oAr) w hw) rfl lAr (by first | assumption | omega | (simp; omega))))) rfl rfl (kt6p rfl (fun A1_26 c1_26 xs_26 A2_26 c2_26 ys_26 h_26 => ?_))
    have hb26 := h_26
    have hsx := h_26.1.2.2
    have hsy := h_26.2.2.2
    have hr1 := relV_len (of := fun es => compl xs_26.length es (prs xs_26.length).length) (xs := xs_26) (ys := ys_26) (fun g h => gr_of_sublist (compl_sub _ _ _))
    have hr2 := relV_len (of := fun es => compl ys_26.length es (prs ys_26.length).length) (xs := ys_26) (ys := xs_26) (fun g h => gr_of_sublist (compl_sub _ _ _))
    refine wl_v (ov_move rfl) rfl rfl rfl ?_
    refine wl_v (ov_extract rfl rfl) rfl rfl rfl ?_
    refine wl_v (ov_extract rfl rfl) rfl rfl rfl ?_
    refine wl_v (ov_assign rfl) rfl rfl rfl ?_
    refine wl_v (ov_assign rfl) rfl rfl rfl ?_
    refine wl_nil ?_
    refine ce_then ?_
    refine cw_seq ?_
    refine cw_region ?_
    refine wl_v (ov_move rfl) rfl rfl rfl ?_
    refine wl_v (ov_move rfl) rfl rfl rfl ?_
    refine wl_r (or_call (fv := []) (vs := [.slice A1_26 (xs_26.length) (c1_26), .slice A2_26 (ys_26.length) (c2_26)]) (cs := []) en36 rfl rfl (call_x6 (fun w hw => PackI_c w A1_26 xs_26.length c1_26 xs_26 A2_26 ys_26.length c2_26 ys_26 ((holds_row (List.Mem.head _)) w hw) rfl h_26.1.1 ((holds_row (List.Mem.tail _ (List.Mem.head _))) w hw) rfl h_26.2.1 (by first | assumption | omega | (simp; omega))))) rfl rfl (kt6p rfl (fun A3_32 k3_32 c3_32 A4_32 k4_32 c4_32 h_32 => ?_))
    refine wl_v (ov_move rfl) rfl rfl rfl ?_
    refine wl_v (ov_extract rfl rfl) rfl rfl rfl ?_
    refine wl_v (ov_extract rfl rfl) rfl rfl rfl ?_
    refine wl_v (ov_extract rfl rfl) rfl rfl rfl ?_
    refine wl_r (or_alloc tI25 rfl) rfl rfl (kt1 rfl (fun g5 => ?_))
    refine wl_r (or_alloc tI25 rfl) rfl rfl (kt1 rfl (fun g6 => ?_))
    refine wl_r0 (or_store_blk (vs := [.int .i64 (relN xs_26.length (relV (fun es => compl xs_26.length es (prs xs_26.length).length) xs_26 ys_26)), .slice A3_32 ((rel1 (relV (fun es => compl xs_26.length es (prs xs_26.length).length) xs_26 ys_26)).length) (k3_32)]) (cs' := [.int .i64 (relN xs_26.length (relV (fun es => compl xs_26.length es (prs xs_26.length).length) xs_26 ys_26)), .slice A3_32 ((rel1 (relV (fun es => compl xs_26.length es (prs xs_26.length).length) xs_26 ys_26)).length) (k3_32)]) (.tail .head) tI25 rfl rfl rfl rfl (Nat.le_of_ble_eq_true rfl) rfl) rfl rfl (kn0 ?_)
    refine wl_r0 (or_store_blk (vs := [.int .i64 (relN xs_26.length (relV (fun es => compl xs_26.length es (prs xs_26.length).length) xs_26 ys_26)), .slice A4_32 ((rel2 (relV (fun es => compl xs_26.length es (prs xs_26.length).length) xs_26 ys_26)).length) (k4_32)]) (cs' := [.int .i64 (relN xs_26.length (relV (fun es => compl xs_26.length es (prs xs_26.length).length) xs_26 ys_26)), .slice A4_32 ((rel2 (relV (fun es => compl xs_26.length es (prs xs_26.length).length) xs_26 ys_26)).length) (k4_32)]) (.tail .head) tI25 rfl rfl rfl rfl (Nat.le_of_ble_eq_true rfl) rfl) rfl rfl (kn0 ?_)
    refine wl_v (ov_assign rfl) rfl rfl rfl ?_
    refine wl_nil ?_
    refine ce_then ?_
    refine cw_seq ?_
    refine cw_region ?_
    refine wl_v (ov_move rfl) rfl rfl rfl ?_
    refine wl_v (ov_move rfl) rfl rfl rfl ?_
    refine wl_r (or_call (fv := []) (vs := [.slice A1_26 (xs_26.length) (c1_26), .slice A2_26 (ys_26.length) (c2_26)]) (cs := []) en37 rfl rfl (call_x6 (fun w hw => PackS_c w A1_26 xs_26.length c1_26 xs_26 A2_26 ys_26.length c2_26 ys_26 ((holds_row (List.Mem.tail _ (List.Mem.tail _ (List.Mem.tail _ (List.Mem.tail _ (List.Mem.head _)))))) w hw) rfl h_26.1.1 ((holds_row (List.Mem.tail _ (List.Mem.tail _ (List.Mem.tail _ (List.Mem.tail _ (List.Mem.tail _ (List.Mem.head _))))))) w hw) rfl h_26.2.1 (by first | assumption | omega | (simp; omega))))) rfl rfl (kt6p rfl (fun A3_39 k3_39 c3_39 A4_39 k4_39 c4_39 h_39 => ?_))
    refine wl_v (ov_move rfl) rfl rfl rfl ?_
    refine wl_v (ov_extract rfl rfl) rfl rfl rfl ?_
    refine wl_v (ov_extract rfl rfl) rfl rfl rfl ?_
    refine wl_v (ov_extract rfl rfl) rfl rfl rfl ?_
    refine wl_r (or_alloc tI25 rfl) rfl rfl (kt1 rfl (fun g8 => ?_))
    refine wl_r (or_alloc tI25 rfl) rfl rfl (kt1 rfl (fun g9 => ?_))
    refine wl_r0 (or_store_blk (vs := [.int .i64 (relN xs_26.length (relV (fun es => compl xs_26.length es (prs xs_26.length).length) xs_26 ys_26)), .slice A3_39 ((rel1 (relV (fun es => compl xs_26.length es (prs xs_26.length).length) xs_26 ys_26)).length) (k3_39)]) (cs' := [.int .i64 (relN xs_26.length (relV (fun es => compl xs_26.length es (prs xs_26.length).length) xs_26 ys_26)), .slice A3_39 ((rel1 (relV (fun es => compl xs_26.length es (prs xs_26.length).length) xs_26 ys_26)).length) (k3_39)]) (.tail .head) tI25 rfl rfl rfl rfl (Nat.le_of_ble_eq_true rfl) rfl) rfl rfl (kn0 ?_)
    refine wl_r0 (or_store_blk (vs := [.int .i64 (relN xs_26.length (relV (fun es => compl xs_26.length es (prs xs_26.length).length) xs_26 ys_26)), .slice A4_39 ((rel2 (relV (fun es => compl xs_26.length es (prs xs_26.length).length) xs_26 ys_26)).length) (k4_39)]) (cs' := [.int .i64 (relN xs_26.length (relV (fun es => compl xs_26.length es (prs xs_26.length).length) xs_26 ys_26)), .slice A4_39 ((rel2 (relV (fun es => compl xs_26.length es (prs xs_26.length).length) xs_26 ys_26)).length) (k4_39)]) (.tail .head) tI25 rfl rfl rfl rfl (Nat.le_of_ble_eq_true rfl) rfl) rfl rfl (kn0 ?_)
    refine wl_v (ov_assign rfl) rfl rfl rfl ?_
    refine wl_nil ?_
    refine ce_then ?_
    refine cw_seq ?_
    refine cw_seq ?_
    refine cw_region ?_
    refine wl_v (ov_loadAgg (vs := [.int .i64 (relN xs_26.length (relV (fun es => compl xs_26.length es (prs xs_26.length).length) xs_26 ys_26)), .slice A3_32 ((rel1 (relV (fun es => compl xs_26.length es (prs xs_26.length).length) xs_26 ys_26)).length) (k3_32)]) tI25 (holds_blk (List.Mem.tail _ (List.Mem.tail _ (List.Mem.tail _ (List.Mem.tail _ (List.Mem.tail _ (List.Mem.head _))))))) rfl some_lit rfl rfl) rfl rfl rfl ?_
    refine wl_v (ov_loadAgg (vs := [.int .i64 (relN xs_26.length (relV (fun es => compl xs_26.length es (prs xs_26.length).length) xs_26 ys_26)), .slice A3_39 ((rel1 (relV (fun es => compl xs_26.length es (prs xs_26.length).length) xs_26 ys_26)).length) (k3_39)]) tI25 (holds_blk (List.Mem.tail _ (List.Mem.head _))) rfl some_lit rfl rfl) rfl rfl rfl ?_
    refine wl_r (or_call (fv := []) (vs := [.agg #[.int .i64 (relN xs_26.length (relV (fun es => compl xs_26.length es (prs xs_26.length).length) xs_26 ys_26)), .slice A3_32 ((rel1 (relV (fun es => compl xs_26.length es (prs xs_26.length).length) xs_26 ys_26)).length) (k3_32)], .agg #[.int .i64 (relN xs_26.length (relV (fun es => compl xs_26.length es (prs xs_26.length).length) xs_26 ys_26)), .slice A3_39 ((rel1 (relV (fun es => compl xs_26.length es (prs xs_26.length).length) xs_26 ys_26)).length) (k3_39)]]) (cs := []) en28 rfl rfl (call_v (fun w hw => equalGraph_c w (relN xs_26.length (relV (fun es => compl xs_26.length es (prs xs_26.length).length) xs_26 ys_26)) A3_32 ((rel1 (relV (fun es => compl xs_26.length es (prs xs_26.length).length) xs_26 ys_26)).length) k3_32 (rel1 (relV (fun es => compl xs_26.length es (prs xs_26.length).length) xs_26 ys_26)) (relN xs_26.length (relV (fun es => compl xs_26.length es (prs xs_26.length).length) xs_26 ys_26)) A3_39 ((rel1 (relV (fun es => compl xs_26.length es (prs xs_26.length).length) xs_26 ys_26)).length) k3_39 (rel1 (relV (fun es => compl xs_26.length es (prs xs_26.length).length) xs_26 ys_26)) ((holds_row (List.Mem.tail _ (List.Mem.tail _ (List.Mem.tail _ (List.Mem.tail _ (List.Mem.tail _ (List.Mem.tail _ (List.Mem.head _)))))))) w hw) rfl h_32.1 ((holds_row (List.Mem.tail _ (List.Mem.tail _ (List.Mem.head _)))) w hw) rfl h_39.1 (by omega)))) rfl rfl (kt_if rfl (fun c45 => ?_) (fun c45 => ?_))
    ·
      refine wl_v (ov_not rfl) rfl rfl rfl ?_
      refine wl_v (ov_move rfl) rfl rfl rfl ?_
      refine wl_go rfl rfl ?_
      refine wl_v (ov_loadAgg (vs := [.int .i64 (relN xs_26.length (relV (fun es => compl xs_26.length es (prs xs_26.length).length) xs_26 ys_26)), .slice A4_32 ((rel2 (relV (fun es => compl xs_26.length es (prs xs_26.length).length) xs_26 ys_26)).length) (k4_32)]) tI25 (holds_blk (List.Mem.tail _ (List.Mem.tail _ (List.Mem.tail _ (List.Mem.tail _ (List.Mem.head _)))))) rfl some_lit rfl rfl) rfl rfl rfl ?_
      refine wl_go rfl rfl ?_
      refine wl_v (ov_loadAgg (vs := [.int .i64 (relN xs_26.length (relV (fun es => compl xs_26.length es (prs xs_26.length).length) xs_26 ys_26)), .slice A4_39 ((rel2 (relV (fun es => compl xs_26.length es (prs xs_26.length).length) xs_26 ys_26)).length) (k4_39)]) tI25 (holds_blk (List.Mem.head _)) rfl some_lit rfl rfl) rfl rfl rfl ?_
      refine wl_go rfl rfl ?_
      refine wl_r (or_call (fv := []) (vs := [.agg #[.int .i64 (relN xs_26.length (relV (fun es => compl xs_26.length es (prs xs_26.length).length) xs_26 ys_26)), .slice A4_32 ((rel2 (relV (fun es => compl xs_26.length es (prs xs_26.length).length) xs_26 ys_26)).length) (k4_32)], .agg #[.int .i64 (relN xs_26.length (relV (fun es => compl xs_26.length es (prs xs_26.length).length) xs_26 ys_26)), .slice A4_39 ((rel2 (relV (fun es => compl xs_26.length es (prs xs_26.length).length) xs_26 ys_26)).length) (k4_39)]]) (cs := []) en28 rfl rfl (call_v (fun w hw => equalGraph_c w (relN xs_26.length (relV (fun es => compl xs_26.length es (prs xs_26.length).length) xs_26 ys_26)) A4_32 ((rel2 (relV (fun es => compl xs_26.length es (prs xs_26.length).length) xs_26 ys_26)).length) k4_32 (rel2 (relV (fun es => compl xs_26.length es (prs xs_26.length).length) xs_26 ys_26)) (relN xs_26.length (relV (fun es => compl xs_26.length es (prs xs_26.length).length) xs_26 ys_26)) A4_39 ((rel2 (relV (fun es => compl xs_26.length es (prs xs_26.length).length) xs_26 ys_26)).length) k4_39 (rel2 (relV (fun es => compl xs_26.length es (prs xs_26.length).length) xs_26 ys_26)) ((holds_row (List.Mem.tail _ (List.Mem.tail _ (List.Mem.tail _ (List.Mem.tail _ (List.Mem.tail _ (List.Mem.tail _ (List.Mem.tail _ (List.Mem.head _))))))))) w hw) rfl h_32.2 ((holds_row (List.Mem.tail _ (List.Mem.tail _ (List.Mem.tail _ (List.Mem.head _))))) w hw) rfl h_39.2 (by omega)))) rfl rfl (kt_if rfl (fun c50 => ?_) (fun c50 => ?_))
      ·
        refine wl_go rfl rfl ?_
        refine wl_v (ov_not rfl) rfl rfl rfl ?_
        refine wl_v (ov_pick_f rfl rfl) rfl rfl rfl ?_
        refine wl_v (ov_move rfl) rfl rfl rfl ?_
        refine wl_go rfl rfl ?_
        refine wl_v (ov_move rfl) rfl rfl rfl ?_
        refine wl_go rfl rfl ?_
        refine wl_v (ov_move rfl) rfl rfl rfl ?_
        refine wl_go rfl rfl ?_
        refine wl_if (OpV.dec (ov_neqb uI4 rfl rfl)) rfl rfl rfl (fun c56 => ?_) (fun c56 => ?_)
        ·
          simp at c56
        ·
          refine wl_v (ov_pick_f rfl rfl) rfl rfl rfl ?_
          refine wl_v (ov_move rfl) rfl rfl rfl ?_
          refine wl_go rfl rfl ?_
          refine wl_v (ov_move rfl) rfl rfl rfl ?_
          refine wl_go rfl rfl ?_
          refine wl_r (or_call (fv := []) (vs := [.slice A1_26 (xs_26.length) (c1_26)]) (cs := []) en21 rfl rfl (call_v (fun w hw => validI_c w A1_26 xs_26.length c1_26 xs_26 ((holds_row (List.Mem.tail _ (List.Mem.tail _ (List.Mem.tail _ (List.Mem.tail _ (List.Mem.tail _ (List.Mem.tail _ (List.Mem.tail _ (List.Mem.tail _ (List.Mem.head _)))))))))) w hw) rfl h_26.1.1 (by first | assumption | omega | (simp; omega))))) rfl rfl (kt_if rfl (fun c60 => ?_) (fun c60 => ?_))
          ·
            refine wl_go rfl rfl ?_
            refine wl_v (ov_not rfl) rfl rfl rfl ?_
            refine wl_v (ov_pick_f rfl rfl) rfl rfl rfl ?_
            refine wl_v (ov_move rfl) rfl rfl rfl ?_
            refine wl_go rfl rfl ?_
            refine wl_v (ov_move rfl) rfl rfl rfl ?_
            refine wl_go rfl rfl ?_
            refine wl_r (or_call (fv := []) (vs := [.slice A2_26 (ys_26.length) (c2_26)]) (cs := []) en21 rfl rfl (call_v (fun w hw => validI_c w A2_26 ys_26.length c2_26 ys_26 ((holds_row (List.Mem.tail _ (List.Mem.tail _ (List.Mem.tail _ (List.Mem.tail _ (List.Mem.tail _ (List.Mem.tail _ (List.Mem.tail _ (List.Mem.tail _ (List.Mem.tail _ (List.Mem.head _))))))))))) w hw) rfl h_26.2.1 (by first | assumption | omega | (simp; omega))))) rfl rfl (kt_if rfl (fun c65 => ?_) (fun c65 => ?_))
            ·
              refine wl_go rfl rfl ?_
              refine wl_v (ov_not rfl) rfl rfl rfl ?_
              refine wl_v (ov_pick_f rfl rfl) rfl rfl rfl ?_
              refine wl_v (ov_move rfl) rfl rfl rfl ?_
              refine wl_go rfl rfl ?_
              refine wl_v (ov_move rfl) rfl rfl rfl ?_
              refine wl_go rfl rfl ?_
              refine wl_v (ov_len (sliceI_spec sI31) rfl) rfl rfl rfl ?_
              refine wl_go rfl rfl ?_
              refine wl_v (ov_move rfl) rfl rfl rfl ?_
              refine wl_go rfl rfl ?_
              refine wl_v (ov_len (sliceI_spec sI31) rfl) rfl rfl rfl ?_
              refine wl_go rfl rfl ?_
              refine wl_if (ov_neq rfl rfl) rfl rfl rfl (fun c73 => ?_) (fun c73 => ?_)
              ·
                refine wl_v (ov_pick_f rfl rfl) rfl rfl rfl ?_
                refine wl_v (ov_move rfl) rfl rfl rfl ?_
                refine wl_not rfl rfl rfl rfl rfl rfl ?_
                refine wl_not rfl rfl rfl rfl rfl rfl ?_
                refine wl_not rfl rfl rfl rfl rfl rfl ?_
                refine wl_v (ov_pick_t rfl rfl) rfl rfl rfl ?_
                refine wl_nil ?_
                refine ce_then ?_
                refine cw_true rfl ?_
                refine cw_seq ?_
                refine cw_region ?_
                refine wl_v (ov_loadAgg (vs := [.int .i64 (relN xs_26.length (relV (fun es => compl xs_26.length es (prs xs_26.length).length) xs_26 ys_26)), .slice A3_32 ((rel1 (relV (fun es => compl xs_26.length es (prs xs_26.length).length) xs_26 ys_26)).length) (k3_32)]) tI25 (holds_blk (List.Mem.tail _ (List.Mem.tail _ (List.Mem.tail _ (List.Mem.tail _ (List.Mem.tail _ (List.Mem.head _))))))) rfl some_lit rfl rfl) rfl rfl rfl ?_
                refine wl_v (ov_loadAgg (vs := [.int .i64 (relN xs_26.length (relV (fun es => compl xs_26.length es (prs xs_26.length).length) xs_26 ys_26)), .slice A3_39 ((rel1 (relV (fun es => compl xs_26.length es (prs xs_26.length).length) xs_26 ys_26)).length) (k3_39)]) tI25 (holds_blk (List.Mem.tail _ (List.Mem.head _))) rfl some_lit rfl rfl) rfl rfl rfl ?_
                refine wl_r (or_call (fv := []) (vs := [.agg #[.int .i64 (relN xs_26.length (relV (fun es => compl xs_26.length es (prs xs_26.length).length) xs_26 ys_26)), .slice A3_32 ((rel1 (relV (fun es => compl xs_26.length es (prs xs_26.length).length) xs_26 ys_26)).length) (k3_32)], .agg #[.int .i64 (relN xs_26.length (relV (fun es => compl xs_26.length es (prs xs_26.length).length) xs_26 ys_26)), .slice A3_39 ((rel1 (relV (fun es => compl xs_26.length es (prs xs_26.length).length) xs_26 ys_26)).length) (k3_39)]]) (cs := []) en28 rfl rfl (call_v (fun w hw => equalGraph_c w (relN xs_26.length (relV (fun es => compl xs_26.length es (prs xs_26.length).length) xs_26 ys_26)) A3_32 ((rel1 (relV (fun es => compl xs_26.length es (prs xs_26.length).length) xs_26 ys_26)).length) k3_32 (rel1 (relV (fun es => compl xs_26.length es (prs xs_26.length).length) xs_26 ys_26)) (relN xs_26.length (relV (fun es => compl xs_26.length es (prs xs_26.length).length) xs_26 ys_26)) A3_39 ((rel1 (relV (fun es => compl xs_26.length es (prs xs_26.length).length) xs_26 ys_26)).length) k3_39 (rel1 (relV (fun es => compl xs_26.length es (prs xs_26.length).length) xs_26 ys_26)) ((holds_row (List.Mem.tail _ (List.Mem.tail _ (List.Mem.tail _ (List.Mem.tail _ (List.Mem.tail _ (List.Mem.tail _ (List.Mem.head _)))))))) w hw) rfl h_32.1 ((holds_row (List.Mem.tail _ (List.Mem.tail _ (List.Mem.head _)))) w hw) rfl h_39.1 (by omega)))) rfl rfl (kt_if rfl (fun c82 => ?_) (fun c82 => ?_))
                ·
                  refine wl_v (ov_move rfl) rfl rfl rfl ?_
                  refine wl_go rfl rfl ?_
                  refine wl_v (ov_loadAgg (vs := [.int .i64 (relN xs_26.length (relV (fun es => compl xs_26.length es (prs xs_26.length).length) xs_26 ys_26)), .slice A4_32 ((rel2 (relV (fun es => compl xs_26.length es (prs xs_26.length).length) xs_26 ys_26)).length) (k4_32)]) tI25 (holds_blk (List.Mem.tail _ (List.Mem.tail _ (List.Mem.tail _ (List.Mem.tail _ (List.Mem.head _)))))) rfl some_lit rfl rfl) rfl rfl rfl ?_
                  refine wl_go rfl rfl ?_
                  refine wl_v (ov_loadAgg (vs := [.int .i64 (relN xs_26.length (relV (fun es => compl xs_26.length es (prs xs_26.length).length) xs_26 ys_26)), .slice A4_39 ((rel2 (relV (fun es => compl xs_26.length es (prs xs_26.length).length) xs_26 ys_26)).length) (k4_39)]) tI25 (holds_blk (List.Mem.head _)) rfl some_lit rfl rfl) rfl rfl rfl ?_
                  refine wl_go rfl rfl ?_
                  refine wl_r (or_call (fv := []) (vs := [.agg #[.int .i64 (relN xs_26.length (relV (fun es => compl xs_26.length es (prs xs_26.length).length) xs_26 ys_26)), .slice A4_32 ((rel2 (relV (fun es => compl xs_26.length es (prs xs_26.length).length) xs_26 ys_26)).length) (k4_32)], .agg #[.int .i64 (relN xs_26.length (relV (fun es => compl xs_26.length es (prs xs_26.length).length) xs_26 ys_26)), .slice A4_39 ((rel2 (relV (fun es => compl xs_26.length es (prs xs_26.length).length) xs_26 ys_26)).length) (k4_39)]]) (cs := []) en28 rfl rfl (call_v (fun w hw => equalGraph_c w (relN xs_26.length (relV (fun es => compl xs_26.length es (prs xs_26.length).length) xs_26 ys_26)) A4_32 ((rel2 (relV (fun es => compl xs_26.length es (prs xs_26.length).length) xs_26 ys_26)).length) k4_32 (rel2 (relV (fun es => compl xs_26.length es (prs xs_26.length).length) xs_26 ys_26)) (relN xs_26.length (relV (fun es => compl xs_26.length es (prs xs_26.length).length) xs_26 ys_26)) A4_39 ((rel2 (relV (fun es => compl xs_26.length es (prs xs_26.length).length) xs_26 ys_26)).length) k4_39 (rel2 (relV (fun es => compl xs_26.length es (prs xs_26.length).length) xs_26 ys_26)) ((holds_row (List.Mem.tail _ (List.Mem.tail _ (List.Mem.tail _ (List.Mem.tail _ (List.Mem.tail _ (List.Mem.tail _ (List.Mem.tail _ (List.Mem.head _))))))))) w hw) rfl h_32.2 ((holds_row (List.Mem.tail _ (List.Mem.tail _ (List.Mem.tail _ (List.Mem.head _))))) w hw) rfl h_39.2 (by omega)))) rfl rfl (kt_if rfl (fun c86 => ?_) (fun c86 => ?_))
                  ·
                    refine wl_v (ov_pick_t rfl rfl) rfl rfl rfl ?_
                    refine wl_v (ov_move rfl) rfl rfl rfl ?_
                    refine wl_go rfl rfl ?_
                    refine wl_v (ov_move rfl) rfl rfl rfl ?_
                    refine wl_go rfl rfl ?_
                    refine wl_v (ov_move rfl) rfl rfl rfl ?_
                    refine wl_go rfl rfl ?_
                    refine wl_if (OpV.dec (ov_eqlb uI4 rfl rfl)) rfl rfl rfl (fun c91 => ?_) (fun c91 => ?_)
                    ·
                      refine wl_v (ov_pick_t rfl rfl) rfl rfl rfl ?_
                      refine wl_v (ov_assign rfl) rfl rfl rfl ?_
                      refine wl_nil ?_
                      refine ce_then ?_
                      refine cw_ret ?_
                      refine ce_then_ret ?_
                      refine ce_results (v := .bool true) (res1 rfl (rv_t rfl)) (fun w' hw => ?_)
                      exact ⟨rfl, (Keep.nil.ss hw).to_new⟩
                    ·
                      simp at c91
                  ·
                    exact absurd ⟨rfl, rfl⟩ c86
                ·
                  exact absurd ⟨rfl, rfl⟩ c82
              ·
                refine wl_v (ov_pick_f rfl rfl) rfl rfl rfl ?_
                refine wl_v (ov_move rfl) rfl rfl rfl ?_
                refine wl_go rfl rfl ?_
                refine wl_v (ov_move rfl) rfl rfl rfl ?_
                refine wl_go rfl rfl ?_
                refine wl_v (ov_len (sliceI_spec sI31) rfl) rfl rfl rfl ?_
                refine wl_go rfl rfl ?_
                refine wl_if (ov_gtr rfl rfl) rfl rfl rfl (fun c78 => ?_) (fun c78 => ?_)
                ·
                  refine wl_v (ov_pick_f rfl rfl) rfl rfl rfl ?_
                  refine wl_nil ?_
                  refine ce_then ?_
                  refine cw_true rfl ?_
                  refine cw_seq ?_
                  refine cw_region ?_
                  refine wl_v (ov_loadAgg (vs := [.int .i64 (relN xs_26.length (relV (fun es => compl xs_26.length es (prs xs_26.length).length) xs_26 ys_26)), .slice A3_32 ((rel1 (relV (fun es => compl xs_26.length es (prs xs_26.length).length) xs_26 ys_26)).length) (k3_32)]) tI25 (holds_blk (List.Mem.tail _ (List.Mem.tail _ (List.Mem.tail _ (List.Mem.tail _ (List.Mem.tail _ (List.Mem.head _))))))) rfl some_lit rfl rfl) rfl rfl rfl ?_
                  refine wl_v (ov_loadAgg (vs := [.int .i64 (relN xs_26.length (relV (fun es => compl xs_26.length es (prs xs_26.length).length) xs_26 ys_26)), .slice A3_39 ((rel1 (relV (fun es => compl xs_26.length es (prs xs_26.length).length) xs_26 ys_26)).length) (k3_39)]) tI25 (holds_blk (List.Mem.tail _ (List.Mem.head _))) rfl some_lit rfl rfl) rfl rfl rfl ?_
                  refine wl_r (or_call (fv := []) (vs := [.agg #[.int .i64 (relN xs_26.length (relV (fun es => compl xs_26.length es (prs xs_26.length).length) xs_26 ys_26)), .slice A3_32 ((rel1 (relV (fun es => compl xs_26.length es (prs xs_26.length).length) xs_26 ys_26)).length) (k3_32)], .agg #[.int .i64 (relN xs_26.length (relV (fun es => compl xs_26.length es (prs xs_26.length).length) xs_26 ys_26)), .slice A3_39 ((rel1 (relV (fun es => compl xs_26.length es (prs xs_26.length).length) xs_26 ys_26)).length) (k3_39)]]) (cs := []) en28 rfl rfl (call_v (fun w hw => equalGraph_c w (relN xs_26.length (relV (fun es => compl xs_26.length es (prs xs_26.length).length) xs_26 ys_26)) A3_32 ((rel1 (relV (fun es => compl xs_26.length es (prs xs_26.length).length) xs_26 ys_26)).length) k3_32 (rel1 (relV (fun es => compl xs_26.length es (prs xs_26.length).length) xs_26 ys_26)) (relN xs_26.length (relV (fun es => compl xs_26.length es (prs xs_26.length).length) xs_26 ys_26)) A3_39 ((rel1 (relV (fun es => compl xs_26.length es (prs xs_26.length).length) xs_26 ys_26)).length) k3_39 (rel1 (relV (fun es => compl xs_26.length es (prs xs_26.length).length) xs_26 ys_26)) ((holds_row (List.Mem.tail _ (List.Mem.tail _ (List.Mem.tail _ (List.Mem.tail _ (List.Mem.tail _ (List.Mem.tail _ (List.Mem.head _)))))))) w hw) rfl h_32.1 ((holds_row (List.Mem.tail _ (List.Mem.tail _ (List.Mem.head _)))) w hw) rfl h_39.1 (by omega)))) rfl rfl (kt_if rfl (fun c82 => ?_) (fun c82 => ?_))
                  ·
                    refine wl_v (ov_move rfl) rfl rfl rfl ?_
                    refine wl_go rfl rfl ?_
                    refine wl_v (ov_loadAgg (vs := [.int .i64 (relN xs_26.length (relV (fun es => compl xs_26.length es (prs xs_26.length).length) xs_26 ys_26)), .slice A4_32 ((rel2 (relV (fun es => compl xs_26.length es (prs xs_26.length).length) xs_26 ys_26)).length) (k4_32)]) tI25 (holds_blk (List.Mem.tail _ (List.Mem.tail _ (List.Mem.tail _ (List.Mem.tail _ (List.Mem.head _)))))) rfl some_lit rfl rfl) rfl rfl rfl ?_
                    refine wl_go rfl rfl ?_
                    refine wl_v (ov_loadAgg (vs := [.int .i64 (relN xs_26.length (relV (fun es => compl xs_26.length es (prs xs_26.length).length) xs_26 ys_26)), .slice A4_39 ((rel2 (relV (fun es => compl xs_26.length es (prs xs_26.length).length) xs_26 ys_26)).length) (k4_39)]) tI25 (holds_blk (List.Mem.head _)) rfl some_lit rfl rfl) rfl rfl rfl ?_
                    refine wl_go rfl rfl ?_
                    refine wl_r (or_call (fv := []) (vs := [.agg #[.int .i64 (relN xs_26.length (relV (fun es => compl xs_26.length es (prs xs_26.length).length) xs_26 ys_26)), .slice A4_32 ((rel2 (relV (fun es => compl xs_26.length es (prs xs_26.length).length) xs_26 ys_26)).length) (k4_32)], .agg #[.int .i64 (relN xs_26.length (relV (fun es => compl xs_26.length es (prs xs_26.length).length) xs_26 ys_26)), .slice A4_39 ((rel2 (relV (fun es => compl xs_26.length es (prs xs_26.length).length) xs_26 ys_26)).length) (k4_39)]]) (cs := []) en28 rfl rfl (call_v (fun w hw => equalGraph_c w (relN xs_26.length (relV (fun es => compl xs_26.length es (prs xs_26.length).length) xs_26 ys_26)) A4_32 ((rel2 (relV (fun es => compl xs_26.length es (prs xs_26.length).length) xs_26 ys_26)).length) k4_32 (rel2 (relV (fun es => compl xs_26.length es (prs xs_26.length).length) xs_26 ys_26)) (relN xs_26.length (relV (fun es => compl xs_26.length es (prs xs_26.length).length) xs_26 ys_26)) A4_39 ((rel2 (relV (fun es => compl xs_26.length es (prs xs_26.length).length) xs_26 ys_26)).length) k4_39 (rel2 (relV (fun es => compl xs_26.length es (prs xs_26.length).length) xs_26 ys_26)) ((holds_row (List.Mem.tail _ (List.Mem.tail _ (List.Mem.tail _ (List.Mem.tail _ (List.Mem.tail _ (List.Mem.tail _ (List.Mem.tail _ (List.Mem.head _))))))))) w hw) rfl h_32.2 ((holds_row (List.Mem.tail _ (List.Mem.tail _ (List.Mem.tail _ (List.Mem.head _))))) w hw) rfl h_39.2 (by omega)))) rfl rfl (kt_if rfl (fun c86 => ?_) (fun c86 => ?_))
                    ·
                      refine wl_v (ov_pick_t rfl rfl) rfl rfl rfl ?_
                      refine wl_v (ov_move rfl) rfl rfl rfl ?_
                      refine wl_go rfl rfl ?_
                      refine wl_v (ov_move rfl) rfl rfl rfl ?_
                      refine wl_go rfl rfl ?_
                      refine wl_v (ov_move rfl) rfl rfl rfl ?_
                      refine wl_go rfl rfl ?_
                      refine wl_if (OpV.dec (ov_eqlb uI4 rfl rfl)) rfl rfl rfl (fun c91 => ?_) (fun c91 => ?_)
                      ·
                        refine wl_v (ov_pick_t rfl rfl) rfl rfl rfl ?_
                        refine wl_v (ov_assign rfl) rfl rfl rfl ?_
                        refine wl_nil ?_
                        refine ce_then ?_
                        refine cw_ret ?_
                        refine ce_then_ret ?_
                        refine ce_results (v := .bool true) (res1 rfl (rv_t rfl)) (fun w' hw => ?_)
                        exact ⟨rfl, (Keep.nil.ss hw).to_new⟩
                      ·
                        simp at c91
                    ·
                      exact absurd ⟨rfl, rfl⟩ c86
                  ·
                    exact absurd ⟨rfl, rfl⟩ c82
                ·
                  refine wl_v (ov_pick_f rfl rfl) rfl rfl rfl ?_
                  refine wl_nil ?_
                  refine ce_then ?_
                  refine cw_false rfl ?_
                  refine cw_skip ?_
                  refine ce_then ?_
                  refine cw_seq ?_
                  have hlen : xs_26.length = ys_26.length := by omega
                  have h5 : xs_26.length ≤ 5 := by omega
                  have ht := pack_turn c60 c65 hlen h5
                  have hws := pack_sum c60 c65 hlen h5
                  have hr3 := relV_len (of := fun es => es) (xs := sumTo xs_26 ys_26 xs_26.length) (ys := ys_26) (fun g h => h)
                  refine cw_region ?_
                  refine wl_v (ov_move rfl) rfl rfl rfl ?_
                  refine wl_v (ov_move rfl) rfl rfl rfl ?_
                  refine wl_r (or_call (fv := []) (vs := [.slice A2_26 (ys_26.length) (c2_26), .slice A1_26 (xs_26.length) (c1_26)]) (cs := []) en36 rfl rfl (call_x6 (fun w hw => PackI_c w A2_26 ys_26.length c2_26 ys_26 A1_26 xs_26.length c1_26 xs_26 ((holds_row (List.Mem.tail _ (List.Mem.tail _ (List.Mem.tail _ (List.Mem.tail _ (List.Mem.tail _ (List.Mem.tail _ (List.Mem.tail _ (List.Mem.tail _ (List.Mem.tail _ (List.Mem.head _))))))))))) w hw) rfl h_26.2.1 ((holds_row (List.Mem.tail _ (List.Mem.tail _ (List.Mem.tail _ (List.Mem.tail _ (List.Mem.tail _ (List.Mem.tail _ (List.Mem.tail _ (List.Mem.tail _ (List.Mem.head _)))))))))) w hw) rfl h_26.1.1 (by first | assumption | omega | (simp; omega))))) rfl rfl (kt6p rfl (fun A3_96 k3_96 c3_96 A4_96 k4_96 c4_96 h_96 => ?_))
                  refine wl_v (ov_move rfl) rfl rfl rfl ?_
                  refine wl_v (ov_extract rfl rfl) rfl rfl rfl ?_
                  refine wl_v (ov_extract rfl rfl) rfl rfl rfl ?_
                  refine wl_v (ov_extract rfl rfl) rfl rfl rfl ?_
                  refine wl_r (or_alloc tI25 rfl) rfl rfl (kt1 rfl (fun g11 => ?_))
                  refine wl_r (or_alloc tI25 rfl) rfl rfl (kt1 rfl (fun g12 => ?_))
                  refine wl_r0 (or_store_blk (vs := [.int .i64 (relN ys_26.length (relV (fun es => compl ys_26.length es (prs ys_26.length).length) ys_26 xs_26)), .slice A3_96 ((rel1 (relV (fun es => compl ys_26.length es (prs ys_26.length).length) ys_26 xs_26)).length) (k3_96)]) (cs' := [.int .i64 (relN ys_26.length (relV (fun es => compl ys_26.length es (prs ys_26.length).length) ys_26 xs_26)), .slice A3_96 ((rel1 (relV (fun es => compl ys_26.length es (prs ys_26.length).length) ys_26 xs_26)).length) (k3_96)]) (.tail .head) tI25 rfl rfl rfl rfl (Nat.le_of_ble_eq_true rfl) rfl) rfl rfl (kn0 ?_)
                  refine wl_r0 (or_store_blk (vs := [.int .i64 (relN ys_26.length (relV (fun es => compl ys_26.length es (prs ys_26.length).length) ys_26 xs_26)), .slice A4_96 ((rel2 (relV (fun es => compl ys_26.length es (prs ys_26.length).length) ys_26 xs_26)).length) (k4_96)]) (cs' := [.int .i64 (relN ys_26.length (relV (fun es => compl ys_26.length es (prs ys_26.length).length) ys_26 xs_26)), .slice A4_96 ((rel2 (relV (fun es => compl ys_26.length es (prs ys_26.length).length) ys_26 xs_26)).length) (k4_96)]) (.tail .head) tI25 rfl rfl rfl rfl (Nat.le_of_ble_eq_true rfl) rfl) rfl rfl (kn0 ?_)
                  refine wl_v (ov_assign rfl) rfl rfl rfl ?_
                  refine wl_nil ?_
                  refine ce_then ?_
                  refine cw_seq ?_
                  refine cw_region ?_
                  refine wl_r (or_buildSlice (e := 3) (size := 1) (is := []) (vs := []) (cs := cells fI ([])) rfl rfl rfl (by decide) (fun _ => by kernel_rfl)) rfl rfl (kt1 rfl (fun g100 => ?_))
                  refine wl_v (ov_assign rfl) rfl rfl rfl ?_
                  refine wl_nil ?_
                  refine ce_then ?_
                  refine cw_seq ?_
                  refine cw_seq ?_
                  refine cw_region ?_
                  refine wl_v (ov_assign rfl) rfl rfl rfl ?_
                  refine wl_nil ?_
                  refine ce_then ?_
                  refine cw_block ?_
                  refine cw_loop3 (fun (k : Nat) (A3 : Option Addr) (c3 : Nat) => [(2, .bool false), (3, .slice A1_26 (xs_26.length) (c1_26)), (4, .slice A2_26 (ys_26.length) (c2_26)), (5, elp (some ⟨g5, 0, none⟩) (0)), (6, elp (some ⟨g6, 0, none⟩) (0)), (7, .bool ((relV (fun es => compl xs_26.length es (prs xs_26.length).length) xs_26 ys_26).isSome)), (13, .bool ((relV (fun es => compl ys_26.length es (prs ys_26.length).length) ys_26 xs_26).isSome)), (14, .slice A3 (k) (c3)), (15, .int .i64 (((k : Nat) : Int)))]) (fun (k : Nat) (A3 : Option Addr) (c3 : Nat) => [row 3 1 A3 (k) (c3) (cells fI (sumTo xs_26 ys_26 k)), blk g12 [.int .i64 (relN ys_26.length (relV (fun es => compl ys_26.length es (prs ys_26.length).length) ys_26 xs_26)), .slice A4_96 ((rel2 (relV (fun es => compl ys_26.length es (prs ys_26.length).length) ys_26 xs_26)).length) (k4_96)] 25, blk g11 [.int .i64 (relN ys_26.length (relV (fun es => compl ys_26.length es (prs ys_26.length).length) ys_26 xs_26)), .slice A3_96 ((rel1 (relV (fun es => compl ys_26.length es (prs ys_26.length).length) ys_26 xs_26)).length) (k3_96)] 25, row 43 2 A3_96 ((rel1 (relV (fun es => compl ys_26.length es (prs ys_26.length).length) ys_26 xs_26)).length) (c3_96) (cells fE (rel1 (relV (fun es => compl ys_26.length es (prs ys_26.length).length) ys_26 xs_26))), row 43 2 A4_96 ((rel2 (relV (fun es => compl ys_26.length es (prs ys_26.length).length) ys_26 xs_26)).length) (c4_96) (cells fE (rel2 (relV (fun es => compl ys_26.length es (prs ys_26.length).length) ys_26 xs_26))), blk g9 [.int .i64 (relN xs_26.length (relV (fun es => compl xs_26.length es (prs xs_26.length).length) xs_26 ys_26)), .slice A4_39 ((rel2 (relV (fun es => compl xs_26.length es (prs xs_26.length).length) xs_26 ys_26)).length) (k4_39)] 25, blk g8 [.int .i64 (relN xs_26.length (relV (fun es => compl xs_26.length es (prs xs_26.length).length) xs_26 ys_26)), .slice A3_39 ((rel1 (relV (fun es => compl xs_26.length es (prs xs_26.length).length) xs_26 ys_26)).length) (k3_39)] 25, row 43 2 A3_39 ((rel1 (relV (fun es => compl xs_26.length es (prs xs_26.length).length) xs_26 ys_26)).length) (c3_39) (cells fE (rel1 (relV (fun es => compl xs_26.length es (prs xs_26.length).length) xs_26 ys_26))), row 43 2 A4_39 ((rel2 (relV (fun es => compl xs_26.length es (prs xs_26.length).length) xs_26 ys_26)).length) (c4_39) (cells fE (rel2 (relV (fun es => compl xs_26.length es (prs xs_26.length).length) xs_26 ys_26))), blk g6 [.int .i64 (relN xs_26.length (relV (fun es => compl xs_26.length es (prs xs_26.length).length) xs_26 ys_26)), .slice A4_32 ((rel2 (relV (fun es => compl xs_26.length es (prs xs_26.length).length) xs_26 ys_26)).length) (k4_32)] 25, blk g5 [.int .i64 (relN xs_26.length (relV (fun es => compl xs_26.length es (prs xs_26.length).length) xs_26 ys_26)), .slice A3_32 ((rel1 (relV (fun es => compl xs_26.length es (prs xs_26.length).length) xs_26 ys_26)).length) (k3_32)] 25, row 43 2 A3_32 ((rel1 (relV (fun es => compl xs_26.length es (prs xs_26.length).length) xs_26 ys_26)).length) (c3_32) (cells fE (rel1 (relV (fun es => compl xs_26.length es (prs xs_26.length).length) xs_26 ys_26))), row 43 2 A4_32 ((rel2 (relV (fun es => compl xs_26.length es (prs xs_26.length).length) xs_26 ys_26)).length) (c4_32) (cells fE (rel2 (relV (fun es => compl xs_26.length es (prs xs_26.length).length) xs_26 ys_26))), row 3 1 A1_26 (xs_26.length) (c1_26) (cells fI xs_26), row 3 1 A2_26 (ys_26.length) (c2_26) (cells fI ys_26)]) (fun (k : Nat) (A3 : Option Addr) (c3 : Nat) => k ≤ xs_26.length ∧ k ≤ c3) (fun (k : Nat) (A3 : Option Addr) (c3 : Nat) => xs_26.length - k) 0 (some ⟨g100, 0, none⟩) 0 ⟨by omega, Nat.le_refl _⟩ (.cons rfl (.cons rfl (.cons rfl (.cons rfl (.cons rfl (.cons rfl (.cons rfl (.cons rfl (.cons (congrArg (fun z => some (Value.int .i64 z)) (show 0 = ((0 : Nat) : Int) by first | omega | rfl | (simp; done))) (.nil)))))))))) (.consE (show row 3 1 (some ⟨g100, 0, none⟩) (0) (0) (cells fI ([])) = row 3 1 (some ⟨g100, 0, none⟩) (0) (0) (cells fI (sumTo xs_26 ys_26 0)) by rfl) (.head) (.cons (.head) (.cons (.head) (.cons (.head) (.cons (.head) (.cons (.head) (.cons (.head) (.cons (.head) (.cons (.head) (.cons (.head) (.cons (.head) (.cons (.head) (.cons (.head) (.cons (.head) (.cons (.head) (.nil)))))))))))))))) ?_
                  intro R0 k A3 c3 hk hR0
                  obtain ⟨hk1, hk2⟩ := hk
                  refine cw_seq ?_
                  refine cw_seq ?_
                  refine cw_region ?_
                  refine wl_v (ov_move rfl) rfl rfl rfl ?_
                  refine wl_v (ov_move rfl) rfl rfl rfl ?_
                  refine wl_v (ov_len (sliceI_spec sI31) rfl) rfl rfl rfl ?_
                  refine wl_if (ov_lss rfl rfl) rfl rfl rfl (fun c104 => ?_) (fun c104 => ?_)
                  ·
                    refine wl_nil ?_
                    refine ce_then ?_
                    refine cw_true rfl ?_
                    refine cw_skip ?_
                    refine ce_then ?_
                    refine cw_seq ?_
                    refine cw_block ?_
                    refine cw_draw mixO [] (.cons (.tail .head) (.cons (.tail .head) (.cons (.tail .head) (.cons (.tail .head) (.cons (.tail .head) (.cons (.tail .head) (.cons (.tail .head) (.cons (.tail .head) (.cons (.tail .head) (.cons (.tail .head) (.cons (.tail .head) (.cons (.tail .head) (.cons (.tail .head) (.cons (.tail .head) (.nil))))))))))))))) rfl ?_
                    refine wg_takep (i := 0) rfl (ov_move rfl) rfl rfl rfl (by kernel_rfl) (by kernel_rfl) (by kernel_rfl) rfl ?_
                    refine wg_takep (i := 1) rfl (ov_move rfl) rfl rfl rfl (by kernel_rfl) (by kernel_rfl) (by kernel_rfl) rfl ?_
                    refine wg_takep (i := 2) rfl (ov_move rfl) rfl rfl rfl (by kernel_rfl) (by kernel_rfl) (by kernel_rfl) rfl ?_
                    refine wg_take (i := 3) rfl (ov_index (k := k) (c := c1_26) sI31 tI3 rfl rfl (some_holds (q := k * 1) (holds_row (List.Mem.tail _ (List.Mem.tail _ (List.Mem.tail _ (List.Mem.tail _ (List.Mem.tail _ (List.Mem.tail _ (List.Mem.tail _ (List.Mem.tail _ (List.Mem.tail _ (List.Mem.tail _ (List.Mem.tail _ (List.Mem.tail _ (List.Mem.head _)))))))))))))) (by rw [cells_length fI_len]; have hlt : k < xs_26.length := (by omega); omega)) (show k < xs_26.length from (by omega))) rfl rfl rfl (by kernel_rfl) (by kernel_rfl) (by kernel_rfl) (by kernel_rfl) ?_
                    refine wg_take (i := 4) rfl (ov_load tI3 (holds_row (List.Mem.tail _ (List.Mem.tail _ (List.Mem.tail _ (List.Mem.tail _ (List.Mem.tail _ (List.Mem.tail _ (List.Mem.tail _ (List.Mem.tail _ (List.Mem.tail _ (List.Mem.tail _ (List.Mem.tail _ (List.Mem.tail _ (List.Mem.head _)))))))))))))) rfl (get_fI (show k < xs_26.length from (by omega)))) rfl rfl rfl (by kernel_rfl) (by kernel_rfl) (by kernel_rfl) (by kernel_rfl) ?_
                    have hvx := hsx.at_ (k := k) (by omega)
                    have hvy := hsy.at_ (k := k) (by omega)
                    refine wg_takep (i := 5) rfl (ov_move rfl) rfl rfl rfl (by kernel_rfl) (by kernel_rfl) (by kernel_rfl) rfl ?_
                    refine wg_takep (i := 6) rfl (ov_move rfl) rfl rfl rfl (by kernel_rfl) (by kernel_rfl) (by kernel_rfl) rfl ?_
                    refine wg_take (i := 7) rfl (ov_index (k := k) (c := c2_26) sI31 tI3 rfl rfl (some_holds (q := k * 1) (holds_row (List.Mem.tail _ (List.Mem.tail _ (List.Mem.tail _ (List.Mem.tail _ (List.Mem.tail _ (List.Mem.tail _ (List.Mem.tail _ (List.Mem.tail _ (List.Mem.tail _ (List.Mem.tail _ (List.Mem.tail _ (List.Mem.tail _ (List.Mem.tail _ (List.Mem.head _))))))))))))))) (by rw [cells_length fI_len]; have hlt : k < ys_26.length := (by omega); omega)) (show k < ys_26.length from (by omega))) rfl rfl rfl (by kernel_rfl) (by kernel_rfl) (by kernel_rfl) (by kernel_rfl) ?_
                    refine wg_take (i := 8) rfl (ov_load tI3 (holds_row (List.Mem.tail _ (List.Mem.tail _ (List.Mem.tail _ (List.Mem.tail _ (List.Mem.tail _ (List.Mem.tail _ (List.Mem.tail _ (List.Mem.tail _ (List.Mem.tail _ (List.Mem.tail _ (List.Mem.tail _ (List.Mem.tail _ (List.Mem.tail _ (List.Mem.head _))))))))))))))) rfl (get_fI (show k < ys_26.length from (by omega)))) rfl rfl rfl (by kernel_rfl) (by kernel_rfl) (by kernel_rfl) (by kernel_rfl) ?_
                    refine wg_takep (i := 9) rfl (ov_add (r := (xs_26.getD k 0) + (ys_26.getD k 0)) rfl rfl rfl (by omega)) rfl rfl rfl (by kernel_rfl) (by kernel_rfl) (by kernel_rfl) rfl ?_
                    refine wg_one (i := 10) (by kernel_rfl) ?_
                    refine go_r rfl rfl rfl rfl (or_buildSlice (e := 3) (size := 1) (is := [0]) (vs := [.int .i64 ((xs_26.getD k 0) + (ys_26.getD k 0))]) (cs := cells fI ([(xs_26.getD k 0) + (ys_26.getD k 0)])) rfl rfl rfl (by decide) (fun _ => by kernel_rfl)) (kt1 rfl (fun g117 => ?_))
                    refine gk (.cons (.tail (.tail .head)) (.cons (.tail (.tail .head)) (.cons (.tail (.tail .head)) (.cons (.tail (.tail .head)) (.cons (.tail (.tail .head)) (.cons (.tail (.tail .head)) (.cons (.tail (.tail .head)) (.cons (.tail (.tail .head)) (.cons (.tail (.tail .head)) (.cons (.tail (.tail .head)) (.cons (.tail (.tail .head)) (.cons (.tail (.tail .head)) (.cons (.tail (.tail .head)) (.cons (.tail (.tail .head)) (.nil))))))))))))))) ?_
                    refine wg_one (i := 11) (by kernel_rfl) ?_
                    refine go_r rfl rfl rfl rfl (or_append (c2 := 1) sI31 tI3 rfl (by decide) rfl rfl (.tail .head) (holds_row (List.Mem.head _)) (by rw [cells_length fI_len]; try simp) (one_cells fI_one _) cells_append (by omega) (by omega)) (kt2p rfl (fun A118 c118 h118 => ?_))
                    refine gk (.cons (.tail (.tail .head)) (.cons (.tail (.tail .head)) (.cons (.tail (.tail .head)) (.cons (.tail (.tail .head)) (.cons (.tail (.tail .head)) (.cons (.tail (.tail .head)) (.cons (.tail (.tail .head)) (.cons (.tail (.tail .head)) (.cons (.tail (.tail .head)) (.cons (.tail (.tail .head)) (.cons (.tail (.tail .head)) (.cons (.tail (.tail .head)) (.cons (.tail (.tail .head)) (.cons (.tail (.tail .head)) (.nil))))))))))))))) ?_
                    refine wg_takep (i := 12) rfl (ov_assign rfl) rfl rfl rfl (by kernel_rfl) (by kernel_rfl) (by kernel_rfl) rfl ?_
                    refine wg_done (by kernel_rfl) ?_
                    refine ce_block ?_
                    refine ce_then ?_
                    refine cw_region ?_
                    refine wl_v (ov_move rfl) rfl rfl rfl ?_
                    refine wl_v (ov_add (r := ((k + 1 : Nat) : Int)) rfl rfl rfl (by omega)) rfl rfl rfl ?_
                    refine wl_v (ov_assign rfl) rfl rfl rfl ?_
                    refine wl_nil ?_
                    exact fun ac_ w_ hs_ => hR0 (k + 1) A118 c118 ⟨by omega, h118⟩ (by omega) ac_ w_ (hs_.weaken (.cons rfl (.cons rfl (.cons rfl (.cons rfl (.cons rfl (.cons rfl (.cons rfl (.cons rfl (.cons rfl (.nil)))))))))) (.consE (show row 3 1 A118 (k + 1) (c118) (cells fI ((sumTo xs_26 ys_26 k) ++ ([(xs_26.getD k 0) + (ys_26.getD k 0)]))) = row 3 1 A118 ((k + 1)) (c118) (cells fI (sumTo xs_26 ys_26 (k + 1))) by rw [sumTo_succ] <;> rfl) (.head) (.cons (.tail .head) (.cons (.tail .head) (.cons (.tail .head) (.cons (.tail .head) (.cons (.tail .head) (.cons (.tail .head) (.cons (.tail .head) (.cons (.tail .head) (.cons (.tail .head) (.cons (.tail .head) (.cons (.tail .head) (.cons (.tail .head) (.cons (.tail .head) (.cons (.tail .head) (.nil)))))))))))))))))
                  ·
                    refine wl_nil ?_
                    refine ce_then ?_
                    refine cw_false rfl ?_
                    refine cw_exit ?_
                    refine ce_then_exit ?_
                    refine ce_then_exit ?_
                    refine ce_hit ?_
                    refine ce_then ?_
                    refine cw_seq ?_
                    refine cw_region ?_
                    refine wl_v (ov_move rfl) rfl rfl rfl ?_
                    refine wl_v (ov_move rfl) rfl rfl rfl ?_
                    refine wl_r (or_call (fv := []) (vs := [.slice A3 (k) (c3), .slice A2_26 (ys_26.length) (c2_26)]) (cs := []) en38 rfl rfl (call_x6 (fun w hw => FacRealI_c w A3 k c3 (sumTo xs_26 ys_26 k) A2_26 ys_26.length c2_26 ys_26 ((holds_row (List.Mem.head _)) w hw) (sumTo_len _ _ _) hk2 ((holds_row (List.Mem.tail _ (List.Mem.tail _ (List.Mem.tail _ (List.Mem.tail _ (List.Mem.tail _ (List.Mem.tail _ (List.Mem.tail _ (List.Mem.tail _ (List.Mem.tail _ (List.Mem.tail _ (List.Mem.tail _ (List.Mem.tail _ (List.Mem.tail _ (List.Mem.tail _ (List.Mem.head _)))))))))))))))) w hw) rfl h_26.2.1 (by rw [sumTo_len]; omega)))) rfl rfl (kt6p rfl (fun A3_122 k3_122 c3_122 A4_122 k4_122 c4_122 h_122 => ?_))
                    refine wl_v (ov_move rfl) rfl rfl rfl ?_
                    refine wl_v (ov_extract rfl rfl) rfl rfl rfl ?_
                    refine wl_v (ov_extract rfl rfl) rfl rfl rfl ?_
                    refine wl_v (ov_extract rfl rfl) rfl rfl rfl ?_
                    refine wl_r (or_alloc tI25 rfl) rfl rfl (kt1 rfl (fun g16 => ?_))
                    refine wl_r (or_alloc tI25 rfl) rfl rfl (kt1 rfl (fun g17 => ?_))
                    refine wl_r0 (or_store_blk (vs := [.int .i64 (relN (sumTo xs_26 ys_26 k).length (relV (fun es => es) (sumTo xs_26 ys_26 k) ys_26)), .slice A3_122 ((rel1 (relV (fun es => es) (sumTo xs_26 ys_26 k) ys_26)).length) (k3_122)]) (cs' := [.int .i64 (relN (sumTo xs_26 ys_26 k).length (relV (fun es => es) (sumTo xs_26 ys_26 k) ys_26)), .slice A3_122 ((rel1 (relV (fun es => es) (sumTo xs_26 ys_26 k) ys_26)).length) (k3_122)]) (.tail .head) tI25 rfl rfl rfl rfl (Nat.le_of_ble_eq_true rfl) rfl) rfl rfl (kn0 ?_)
                    refine wl_r0 (or_store_blk (vs := [.int .i64 (relN (sumTo xs_26 ys_26 k).length (relV (fun es => es) (sumTo xs_26 ys_26 k) ys_26)), .slice A4_122 ((rel2 (relV (fun es => es) (sumTo xs_26 ys_26 k) ys_26)).length) (k4_122)]) (cs' := [.int .i64 (relN (sumTo xs_26 ys_26 k).length (relV (fun es => es) (sumTo xs_26 ys_26 k) ys_26)), .slice A4_122 ((rel2 (relV (fun es => es) (sumTo xs_26 ys_26 k) ys_26)).length) (k4_122)]) (.tail .head) tI25 rfl rfl rfl rfl (Nat.le_of_ble_eq_true rfl) rfl) rfl rfl (kn0 ?_)
                    refine wl_v (ov_assign rfl) rfl rfl rfl ?_
                    refine wl_nil ?_
                    refine ce_then ?_
                    refine cw_seq ?_
                    refine cw_seq ?_
                    refine cw_region ?_
                    refine wl_v (ov_move rfl) rfl rfl rfl ?_
                    refine wl_if (OpV.dec (ov_not rfl)) rfl rfl rfl (fun c127 => ?_) (fun c127 => ?_)
                    ·
                      refine wl_nil ?_
                      refine ce_then ?_
                      refine cw_true rfl ?_
                      refine cw_seq ?_
                      refine cw_region ?_
                      refine wl_v (ov_move rfl) rfl rfl rfl ?_
                      refine wl_if (OpV.dec (ov_not rfl)) rfl rfl rfl (fun c129 => ?_) (fun c129 => ?_)
                      ·
                        refine wl_v (ov_move rfl) rfl rfl rfl ?_
                        refine wl_go rfl rfl ?_
                        refine wl_v (ov_move rfl) rfl rfl rfl ?_
                        refine wl_go rfl rfl ?_
                        refine wl_if (OpV.dec (ov_not rfl)) rfl rfl rfl (fun c132 => ?_) (fun c132 => ?_)
                        ·
                          refine wl_v (ov_pick_t rfl rfl) rfl rfl rfl ?_
                          refine wl_v (ov_assign rfl) rfl rfl rfl ?_
                          refine wl_nil ?_
                          refine ce_then ?_
                          refine cw_ret ?_
                          refine ce_then_ret ?_
                          refine ce_results (v := .bool true) (res1 rfl (rv_t rfl)) (fun w' hw => ?_)
                          exact ⟨rfl, (Keep.nil.ss hw).to_new⟩
                        ·
                          refine wl_v (ov_pick_t rfl rfl) rfl rfl rfl ?_
                          refine wl_v (ov_assign rfl) rfl rfl rfl ?_
                          refine wl_nil ?_
                          refine ce_then ?_
                          refine cw_ret ?_
                          refine ce_then_ret ?_
                          refine ce_results (v := .bool false) (res1 rfl (rv_t rfl)) (fun w' hw => ?_)
                          exfalso
                          rw [show k = xs_26.length from by omega, ← hws] at c132; exact c132 c127
                      ·
                        refine wl_v (ov_move rfl) rfl rfl rfl ?_
                        refine wl_not rfl rfl rfl rfl rfl rfl ?_
                        refine wl_not rfl rfl rfl rfl rfl rfl ?_
                        refine wl_v (ov_pick_f rfl rfl) rfl rfl rfl ?_
                        refine wl_v (ov_assign rfl) rfl rfl rfl ?_
                        refine wl_nil ?_
                        refine ce_then ?_
                        refine cw_ret ?_
                        refine ce_then_ret ?_
                        refine ce_results (v := .bool false) (res1 rfl (rv_t rfl)) (fun w' hw => ?_)
                        exfalso
                        rw [← ht] at c129; exact c129 c127
                    ·
                      have hok : (relV (fun es => compl xs_26.length es (prs xs_26.length).length) xs_26 ys_26).isSome = true := by
                        rcases hb9 : (relV (fun es => compl xs_26.length es (prs xs_26.length).length) xs_26 ys_26).isSome with _ | _
                        · rw [hb9] at c127; exact absurd rfl c127
                        · rfl
                      obtain ⟨hN, hv1, hv2, hd1, hu, hud, hc, hcv, hsub⟩ := pack_yes c60 c65 hlen h5 hok
                      refine wl_nil ?_
                      refine ce_then ?_
                      refine cw_false rfl ?_
                      refine cw_skip ?_
                      refine ce_then ?_
                      refine cw_seq ?_
                      refine cw_region ?_
                      refine wl_v (ov_loadAgg (vs := [.int .i64 (relN xs_26.length (relV (fun es => compl xs_26.length es (prs xs_26.length).length) xs_26 ys_26)), .slice A3_32 ((rel1 (relV (fun es => compl xs_26.length es (prs xs_26.length).length) xs_26 ys_26)).length) (k3_32)]) tI25 (holds_blk (List.Mem.tail _ (List.Mem.tail _ (List.Mem.tail _ (List.Mem.tail _ (List.Mem.tail _ (List.Mem.tail _ (List.Mem.tail _ (List.Mem.tail _ (List.Mem.tail _ (List.Mem.tail _ (List.Mem.tail _ (List.Mem.tail _ (List.Mem.tail _ (List.Mem.tail _ (List.Mem.head _)))))))))))))))) rfl some_lit rfl rfl) rfl rfl rfl ?_
                      refine wl_v (ov_loadAgg (vs := [.int .i64 (relN xs_26.length (relV (fun es => compl xs_26.length es (prs xs_26.length).length) xs_26 ys_26)), .slice A4_32 ((rel2 (relV (fun es => compl xs_26.length es (prs xs_26.length).length) xs_26 ys_26)).length) (k4_32)]) tI25 (holds_blk (List.Mem.tail _ (List.Mem.tail _ (List.Mem.tail _ (List.Mem.tail _ (List.Mem.tail _ (List.Mem.tail _ (List.Mem.tail _ (List.Mem.tail _ (List.Mem.tail _ (List.Mem.tail _ (List.Mem.tail _ (List.Mem.tail _ (List.Mem.tail _ (List.Mem.head _))))))))))))))) rfl some_lit rfl rfl) rfl rfl rfl ?_
                      refine wl_r (or_call (fv := []) (vs := [.agg #[.int .i64 (relN xs_26.length (relV (fun es => compl xs_26.length es (prs xs_26.length).length) xs_26 ys_26)), .slice A3_32 ((rel1 (relV (fun es => compl xs_26.length es (prs xs_26.length).length) xs_26 ys_26)).length) (k3_32)], .agg #[.int .i64 (relN xs_26.length (relV (fun es => compl xs_26.length es (prs xs_26.length).length) xs_26 ys_26)), .slice A4_32 ((rel2 (relV (fun es => compl xs_26.length es (prs xs_26.length).length) xs_26 ys_26)).length) (k4_32)]]) (cs := []) en39 rfl rfl (call_x3 (fun w hw => UnionI_c w (relN xs_26.length (relV (fun es => compl xs_26.length es (prs xs_26.length).length) xs_26 ys_26)) A3_32 ((rel1 (relV (fun es => compl xs_26.length es (prs xs_26.length).length) xs_26 ys_26)).length) k3_32 (rel1 (relV (fun es => compl xs_26.length es (prs xs_26.length).length) xs_26 ys_26)) (relN xs_26.length (relV (fun es => compl xs_26.length es (prs xs_26.length).length) xs_26 ys_26)) A4_32 ((rel2 (relV (fun es => compl xs_26.length es (prs xs_26.length).length) xs_26 ys_26)).length) k4_32 (rel2 (relV (fun es => compl xs_26.length es (prs xs_26.length).length) xs_26 ys_26)) ((holds_row (List.Mem.tail _ (List.Mem.tail _ (List.Mem.tail _ (List.Mem.tail _ (List.Mem.tail _ (List.Mem.tail _ (List.Mem.tail _ (List.Mem.tail _ (List.Mem.tail _ (List.Mem.tail _ (List.Mem.tail _ (List.Mem.tail _ (List.Mem.tail _ (List.Mem.tail _ (List.Mem.tail _ (List.Mem.head _))))))))))))))))) w hw) rfl h_32.1 ((holds_row (List.Mem.tail _ (List.Mem.tail _ (List.Mem.tail _ (List.Mem.tail _ (List.Mem.tail _ (List.Mem.tail _ (List.Mem.tail _ (List.Mem.tail _ (List.Mem.tail _ (List.Mem.tail _ (List.Mem.tail _ (List.Mem.tail _ (List.Mem.tail _ (List.Mem.tail _ (List.Mem.tail _ (List.Mem.tail _ (List.Mem.head _)))))))))))))))))) w hw) rfl h_32.2 (by omega) (by rw [hN]; omega)))) rfl rfl (kt3p rfl (fun A3_137 k3_137 c3_137 h_137 => ?_))
                      refine wl_v (ov_move rfl) rfl rfl rfl ?_
                      refine wl_v (ov_extract rfl rfl) rfl rfl rfl ?_
                      refine wl_v (ov_extract rfl rfl) rfl rfl rfl ?_
                      refine wl_r (or_alloc tI25 rfl) rfl rfl (kt1 rfl (fun g19 => ?_))
                      refine wl_r0 (or_store_blk (vs := [.int .i64 ((uniV (relN xs_26.length (relV (fun es => compl xs_26.length es (prs xs_26.length).length) xs_26 ys_26)) (rel1 (relV (fun es => compl xs_26.length es (prs xs_26.length).length) xs_26 ys_26)) (relN xs_26.length (relV (fun es => compl xs_26.length es (prs xs_26.length).length) xs_26 ys_26)) (rel2 (relV (fun es => compl xs_26.length es (prs xs_26.length).length) xs_26 ys_26))).1), .slice A3_137 ((uniV (relN xs_26.length (relV (fun es => compl xs_26.length es (prs xs_26.length).length) xs_26 ys_26)) (rel1 (relV (fun es => compl xs_26.length es (prs xs_26.length).length) xs_26 ys_26)) (relN xs_26.length (relV (fun es => compl xs_26.length es (prs xs_26.length).length) xs_26 ys_26)) (rel2 (relV (fun es => compl xs_26.length es (prs xs_26.length).length) xs_26 ys_26))).2.1.length) (k3_137)]) (cs' := [.int .i64 ((uniV (relN xs_26.length (relV (fun es => compl xs_26.length es (prs xs_26.length).length) xs_26 ys_26)) (rel1 (relV (fun es => compl xs_26.length es (prs xs_26.length).length) xs_26 ys_26)) (relN xs_26.length (relV (fun es => compl xs_26.length es (prs xs_26.length).length) xs_26 ys_26)) (rel2 (relV (fun es => compl xs_26.length es (prs xs_26.length).length) xs_26 ys_26))).1), .slice A3_137 ((uniV (relN xs_26.length (relV (fun es => compl xs_26.length es (prs xs_26.length).length) xs_26 ys_26)) (rel1 (relV (fun es => compl xs_26.length es (prs xs_26.length).length) xs_26 ys_26)) (relN xs_26.length (relV (fun es => compl xs_26.length es (prs xs_26.length).length) xs_26 ys_26)) (rel2 (relV (fun es => compl xs_26.length es (prs xs_26.length).length) xs_26 ys_26))).2.1.length) (k3_137)]) (.head) tI25 rfl rfl rfl rfl (Nat.le_of_ble_eq_true rfl) rfl) rfl rfl (kn0 ?_)
                      refine wl_v (ov_assign rfl) rfl rfl rfl ?_
                      refine wl_nil ?_
                      refine ce_then ?_
                      refine cw_seq ?_
                      refine ct_keep (L' := [(2, .bool false), (3, .slice A1_26 (xs_26.length) (c1_26)), (4, .slice A2_26 (ys_26.length) (c2_26)), (5, elp (some ⟨g5, 0, none⟩) (0)), (6, elp (some ⟨g6, 0, none⟩) (0)), (7, .bool ((relV (fun es => compl xs_26.length es (prs xs_26.length).length) xs_26 ys_26).isSome)), (13, .bool true), (14, .slice A3 (k) (c3)), (15, .int .i64 (((k : Nat) : Int))), (16, elp (some ⟨g16, 0, none⟩) (0)), (17, elp (some ⟨g17, 0, none⟩) (0)), (18, .bool ((relV (fun es => es) (sumTo xs_26 ys_26 k) ys_26).isSome)), (19, elp (some ⟨g19, 0, none⟩) (0)), (20, .bool ((uniV (relN xs_26.length (relV (fun es => compl xs_26.length es (prs xs_26.length).length) xs_26 ys_26)) (rel1 (relV (fun es => compl xs_26.length es (prs xs_26.length).length) xs_26 ys_26)) (relN xs_26.length (relV (fun es => compl xs_26.length es (prs xs_26.length).length) xs_26 ys_26)) (rel2 (relV (fun es => compl xs_26.length es (prs xs_26.length).length) xs_26 ys_26))).2.2)), (101, .int .i64 (((k : Nat) : Int))), (102, .slice A1_26 (xs_26.length) (c1_26)), (103, .int .i64 (((xs_26.length : Nat) : Int))), (104, .bool false), (119, .tuple #[.agg #[.int .i64 (relN (sumTo xs_26 ys_26 k).length (relV (fun es => es) (sumTo xs_26 ys_26 k) ys_26)), .slice A3_122 ((rel1 (relV (fun es => es) (sumTo xs_26 ys_26 k) ys_26)).length) (k3_122)], .agg #[.int .i64 (relN (sumTo xs_26 ys_26 k).length (relV (fun es => es) (sumTo xs_26 ys_26 k) ys_26)), .slice A4_122 ((rel2 (relV (fun es => es) (sumTo xs_26 ys_26 k) ys_26)).length) (k4_122)], .bool ((relV (fun es => es) (sumTo xs_26 ys_26 k) ys_26).isSome)]), (120, .slice A3 (k) (c3)), (121, .slice A2_26 (ys_26.length) (c2_26)), (122, .tuple #[.agg #[.int .i64 (relN (sumTo xs_26 ys_26 k).length (relV (fun es => es) (sumTo xs_26 ys_26 k) ys_26)), .slice A3_122 ((rel1 (relV (fun es => es) (sumTo xs_26 ys_26 k) ys_26)).length) (k3_122)], .agg #[.int .i64 (relN (sumTo xs_26 ys_26 k).length (relV (fun es => es) (sumTo xs_26 ys_26 k) ys_26)), .slice A4_122 ((rel2 (relV (fun es => es) (sumTo xs_26 ys_26 k) ys_26)).length) (k4_122)], .bool ((relV (fun es => es) (sumTo xs_26 ys_26 k) ys_26).isSome)]), (123, .agg #[.int .i64 (relN (sumTo xs_26 ys_26 k).length (relV (fun es => es) (sumTo xs_26 ys_26 k) ys_26)), .slice A3_122 ((rel1 (relV (fun es => es) (sumTo xs_26 ys_26 k) ys_26)).length) (k3_122)]), (124, .agg #[.int .i64 (relN (sumTo xs_26 ys_26 k).length (relV (fun es => es) (sumTo xs_26 ys_26 k) ys_26)), .slice A4_122 ((rel2 (relV (fun es => es) (sumTo xs_26 ys_26 k) ys_26)).length) (k4_122)]), (125, .bool ((relV (fun es => es) (sumTo xs_26 ys_26 k) ys_26).isSome)), (126, .bool ((relV (fun es => compl xs_26.length es (prs xs_26.length).length) xs_26 ys_26).isSome)), (127, .bool false), (134, .tuple #[.agg #[.int .i64 ((uniV (relN xs_26.length (relV (fun es => compl xs_26.length es (prs xs_26.length).length) xs_26 ys_26)) (rel1 (relV (fun es => compl xs_26.length es (prs xs_26.length).length) xs_26 ys_26)) (relN xs_26.length (relV (fun es => compl xs_26.length es (prs xs_26.length).length) xs_26 ys_26)) (rel2 (relV (fun es => compl xs_26.length es (prs xs_26.length).length) xs_26 ys_26))).1), .slice A3_137 ((uniV (relN xs_26.length (relV (fun es => compl xs_26.length es (prs xs_26.length).length) xs_26 ys_26)) (rel1 (relV (fun es => compl xs_26.length es (prs xs_26.length).length) xs_26 ys_26)) (relN xs_26.length (relV (fun es => compl xs_26.length es (prs xs_26.length).length) xs_26 ys_26)) (rel2 (relV (fun es => compl xs_26.length es (prs xs_26.length).length) xs_26 ys_26))).2.1.length) (k3_137)], .bool ((uniV (relN xs_26.length (relV (fun es => compl xs_26.length es (prs xs_26.length).length) xs_26 ys_26)) (rel1 (relV (fun es => compl xs_26.length es (prs xs_26.length).length) xs_26 ys_26)) (relN xs_26.length (relV (fun es => compl xs_26.length es (prs xs_26.length).length) xs_26 ys_26)) (rel2 (relV (fun es => compl xs_26.length es (prs xs_26.length).length) xs_26 ys_26))).2.2)]), (135, .agg #[.int .i64 (relN xs_26.length (relV (fun es => compl xs_26.length es (prs xs_26.length).length) xs_26 ys_26)), .slice A3_32 ((rel1 (relV (fun es => compl xs_26.length es (prs xs_26.length).length) xs_26 ys_26)).length) (k3_32)]), (136, .agg #[.int .i64 (relN xs_26.length (relV (fun es => compl xs_26.length es (prs xs_26.length).length) xs_26 ys_26)), .slice A4_32 ((rel2 (relV (fun es => compl xs_26.length es (prs xs_26.length).length) xs_26 ys_26)).length) (k4_32)]), (137, .tuple #[.agg #[.int .i64 ((uniV (relN xs_26.length (relV (fun es => compl xs_26.length es (prs xs_26.length).length) xs_26 ys_26)) (rel1 (relV (fun es => compl xs_26.length es (prs xs_26.length).length) xs_26 ys_26)) (relN xs_26.length (relV (fun es => compl xs_26.length es (prs xs_26.length).length) xs_26 ys_26)) (rel2 (relV (fun es => compl xs_26.length es (prs xs_26.length).length) xs_26 ys_26))).1), .slice A3_137 ((uniV (relN xs_26.length (relV (fun es => compl xs_26.length es (prs xs_26.length).length) xs_26 ys_26)) (rel1 (relV (fun es => compl xs_26.length es (prs xs_26.length).length) xs_26 ys_26)) (relN xs_26.length (relV (fun es => compl xs_26.length es (prs xs_26.length).length) xs_26 ys_26)) (rel2 (relV (fun es => compl xs_26.length es (prs xs_26.length).length) xs_26 ys_26))).2.1.length) (k3_137)], .bool ((uniV (relN xs_26.length (relV (fun es => compl xs_26.length es (prs xs_26.length).length) xs_26 ys_26)) (rel1 (relV (fun es => compl xs_26.length es (prs xs_26.length).length) xs_26 ys_26)) (relN xs_26.length (relV (fun es => compl xs_26.length es (prs xs_26.length).length) xs_26 ys_26)) (rel2 (relV (fun es => compl xs_26.length es (prs xs_26.length).length) xs_26 ys_26))).2.2)]), (138, .agg #[.int .i64 ((uniV (relN xs_26.length (relV (fun es => compl xs_26.length es (prs xs_26.length).length) xs_26 ys_26)) (rel1 (relV (fun es => compl xs_26.length es (prs xs_26.length).length) xs_26 ys_26)) (relN xs_26.length (relV (fun es => compl xs_26.length es (prs xs_26.length).length) xs_26 ys_26)) (rel2 (relV (fun es => compl xs_26.length es (prs xs_26.length).length) xs_26 ys_26))).1), .slice A3_137 ((uniV (relN xs_26.length (relV (fun es => compl xs_26.length es (prs xs_26.length).length) xs_26 ys_26)) (rel1 (relV (fun es => compl xs_26.length es (prs xs_26.length).length) xs_26 ys_26)) (relN xs_26.length (relV (fun es => compl xs_26.length es (prs xs_26.length).length) xs_26 ys_26)) (rel2 (relV (fun es => compl xs_26.length es (prs xs_26.length).length) xs_26 ys_26))).2.1.length) (k3_137)]), (139, .bool ((uniV (relN xs_26.length (relV (fun es => compl xs_26.length es (prs xs_26.length).length) xs_26 ys_26)) (rel1 (relV (fun es => compl xs_26.length es (prs xs_26.length).length) xs_26 ys_26)) (relN xs_26.length (relV (fun es => compl xs_26.length es (prs xs_26.length).length) xs_26 ys_26)) (rel2 (relV (fun es => compl xs_26.length es (prs xs_26.length).length) xs_26 ys_26))).2.2))]) (.cons rfl (.cons rfl (.cons rfl (.cons rfl (.cons rfl (.cons rfl (.cons (congrArg (fun z => some (Value.bool z)) (ht.symm.trans hok)) (.cons rfl (.cons rfl (.cons rfl (.cons rfl (.cons rfl (.cons rfl (.cons rfl (.cons rfl (.cons rfl (.cons rfl (.cons rfl (.cons rfl (.cons rfl (.cons rfl (.cons rfl (.cons rfl (.cons rfl (.cons rfl (.cons rfl (.cons rfl (.cons rfl (.cons rfl (.cons rfl (.cons rfl (.cons rfl (.cons rfl (.nil)))))))))))))))))))))))))))))))))) .refl ?_
                      refine ct_keep (L' := [(2, .bool false), (3, .slice A1_26 (xs_26.length) (c1_26)), (4, .slice A2_26 (ys_26.length) (c2_26)), (5, elp (some ⟨g5, 0, none⟩) (0)), (6, elp (some ⟨g6, 0, none⟩) (0)), (7, .bool ((relV (fun es => compl xs_26.length es (prs xs_26.length).length) xs_26 ys_26).isSome)), (13, .bool true), (14, .slice A3 (k) (c3)), (15, .int .i64 (((k : Nat) : Int))), (16, elp (some ⟨g16, 0, none⟩) (0)), (17, elp (some ⟨g17, 0, none⟩) (0)), (18, .bool true), (19, elp (some ⟨g19, 0, none⟩) (0)), (20, .bool ((uniV (relN xs_26.length (relV (fun es => compl xs_26.length es (prs xs_26.length).length) xs_26 ys_26)) (rel1 (relV (fun es => compl xs_26.length es (prs xs_26.length).length) xs_26 ys_26)) (relN xs_26.length (relV (fun es => compl xs_26.length es (prs xs_26.length).length) xs_26 ys_26)) (rel2 (relV (fun es => compl xs_26.length es (prs xs_26.length).length) xs_26 ys_26))).2.2)), (101, .int .i64 (((k : Nat) : Int))), (102, .slice A1_26 (xs_26.length) (c1_26)), (103, .int .i64 (((xs_26.length : Nat) : Int))), (104, .bool false), (119, .tuple #[.agg #[.int .i64 (relN (sumTo xs_26 ys_26 k).length (relV (fun es => es) (sumTo xs_26 ys_26 k) ys_26)), .slice A3_122 ((rel1 (relV (fun es => es) (sumTo xs_26 ys_26 k) ys_26)).length) (k3_122)], .agg #[.int .i64 (relN (sumTo xs_26 ys_26 k).length (relV (fun es => es) (sumTo xs_26 ys_26 k) ys_26)), .slice A4_122 ((rel2 (relV (fun es => es) (sumTo xs_26 ys_26 k) ys_26)).length) (k4_122)], .bool ((relV (fun es => es) (sumTo xs_26 ys_26 k) ys_26).isSome)]), (120, .slice A3 (k) (c3)), (121, .slice A2_26 (ys_26.length) (c2_26)), (122, .tuple #[.agg #[.int .i64 (relN (sumTo xs_26 ys_26 k).length (relV (fun es => es) (sumTo xs_26 ys_26 k) ys_26)), .slice A3_122 ((rel1 (relV (fun es => es) (sumTo xs_26 ys_26 k) ys_26)).length) (k3_122)], .agg #[.int .i64 (relN (sumTo xs_26 ys_26 k).length (relV (fun es => es) (sumTo xs_26 ys_26 k) ys_26)), .slice A4_122 ((rel2 (relV (fun es => es) (sumTo xs_26 ys_26 k) ys_26)).length) (k4_122)], .bool ((relV (fun es => es) (sumTo xs_26 ys_26 k) ys_26).isSome)]), (123, .agg #[.int .i64 (relN (sumTo xs_26 ys_26 k).length (relV (fun es => es) (sumTo xs_26 ys_26 k) ys_26)), .slice A3_122 ((rel1 (relV (fun es => es) (sumTo xs_26 ys_26 k) ys_26)).length) (k3_122)]), (124, .agg #[.int .i64 (relN (sumTo xs_26 ys_26 k).length (relV (fun es => es) (sumTo xs_26 ys_26 k) ys_26)), .slice A4_122 ((rel2 (relV (fun es => es) (sumTo xs_26 ys_26 k) ys_26)).length) (k4_122)]), (125, .bool ((relV (fun es => es) (sumTo xs_26 ys_26 k) ys_26).isSome)), (126, .bool ((relV (fun es => compl xs_26.length es (prs xs_26.length).length) xs_26 ys_26).isSome)), (127, .bool false), (134, .tuple #[.agg #[.int .i64 ((uniV (relN xs_26.length (relV (fun es => compl xs_26.length es (prs xs_26.length).length) xs_26 ys_26)) (rel1 (relV (fun es => compl xs_26.length es (prs xs_26.length).length) xs_26 ys_26)) (relN xs_26.length (relV (fun es => compl xs_26.length es (prs xs_26.length).length) xs_26 ys_26)) (rel2 (relV (fun es => compl xs_26.length es (prs xs_26.length).length) xs_26 ys_26))).1), .slice A3_137 ((uniV (relN xs_26.length (relV (fun es => compl xs_26.length es (prs xs_26.length).length) xs_26 ys_26)) (rel1 (relV (fun es => compl xs_26.length es (prs xs_26.length).length) xs_26 ys_26)) (relN xs_26.length (relV (fun es => compl xs_26.length es (prs xs_26.length).length) xs_26 ys_26)) (rel2 (relV (fun es => compl xs_26.length es (prs xs_26.length).length) xs_26 ys_26))).2.1.length) (k3_137)], .bool ((uniV (relN xs_26.length (relV (fun es => compl xs_26.length es (prs xs_26.length).length) xs_26 ys_26)) (rel1 (relV (fun es => compl xs_26.length es (prs xs_26.length).length) xs_26 ys_26)) (relN xs_26.length (relV (fun es => compl xs_26.length es (prs xs_26.length).length) xs_26 ys_26)) (rel2 (relV (fun es => compl xs_26.length es (prs xs_26.length).length) xs_26 ys_26))).2.2)]), (135, .agg #[.int .i64 (relN xs_26.length (relV (fun es => compl xs_26.length es (prs xs_26.length).length) xs_26 ys_26)), .slice A3_32 ((rel1 (relV (fun es => compl xs_26.length es (prs xs_26.length).length) xs_26 ys_26)).length) (k3_32)]), (136, .agg #[.int .i64 (relN xs_26.length (relV (fun es => compl xs_26.length es (prs xs_26.length).length) xs_26 ys_26)), .slice A4_32 ((rel2 (relV (fun es => compl xs_26.length es (prs xs_26.length).length) xs_26 ys_26)).length) (k4_32)]), (137, .tuple #[.agg #[.int .i64 ((uniV (relN xs_26.length (relV (fun es => compl xs_26.length es (prs xs_26.length).length) xs_26 ys_26)) (rel1 (relV (fun es => compl xs_26.length es (prs xs_26.length).length) xs_26 ys_26)) (relN xs_26.length (relV (fun es => compl xs_26.length es (prs xs_26.length).length) xs_26 ys_26)) (rel2 (relV (fun es => compl xs_26.length es (prs xs_26.length).length) xs_26 ys_26))).1), .slice A3_137 ((uniV (relN xs_26.length (relV (fun es => compl xs_26.length es (prs xs_26.length).length) xs_26 ys_26)) (rel1 (relV (fun es => compl xs_26.length es (prs xs_26.length).length) xs_26 ys_26)) (relN xs_26.length (relV (fun es => compl xs_26.length es (prs xs_26.length).length) xs_26 ys_26)) (rel2 (relV (fun es => compl xs_26.length es (prs xs_26.length).length) xs_26 ys_26))).2.1.length) (k3_137)], .bool ((uniV (relN xs_26.length (relV (fun es => compl xs_26.length es (prs xs_26.length).length) xs_26 ys_26)) (rel1 (relV (fun es => compl xs_26.length es (prs xs_26.length).length) xs_26 ys_26)) (relN xs_26.length (relV (fun es => compl xs_26.length es (prs xs_26.length).length) xs_26 ys_26)) (rel2 (relV (fun es => compl xs_26.length es (prs xs_26.length).length) xs_26 ys_26))).2.2)]), (138, .agg #[.int .i64 ((uniV (relN xs_26.length (relV (fun es => compl xs_26.length es (prs xs_26.length).length) xs_26 ys_26)) (rel1 (relV (fun es => compl xs_26.length es (prs xs_26.length).length) xs_26 ys_26)) (relN xs_26.length (relV (fun es => compl xs_26.length es (prs xs_26.length).length) xs_26 ys_26)) (rel2 (relV (fun es => compl xs_26.length es (prs xs_26.length).length) xs_26 ys_26))).1), .slice A3_137 ((uniV (relN xs_26.length (relV (fun es => compl xs_26.length es (prs xs_26.length).length) xs_26 ys_26)) (rel1 (relV (fun es => compl xs_26.length es (prs xs_26.length).length) xs_26 ys_26)) (relN xs_26.length (relV (fun es => compl xs_26.length es (prs xs_26.length).length) xs_26 ys_26)) (rel2 (relV (fun es => compl xs_26.length es (prs xs_26.length).length) xs_26 ys_26))).2.1.length) (k3_137)]), (139, .bool ((uniV (relN xs_26.length (relV (fun es => compl xs_26.length es (prs xs_26.length).length) xs_26 ys_26)) (rel1 (relV (fun es => compl xs_26.length es (prs xs_26.length).length) xs_26 ys_26)) (relN xs_26.length (relV (fun es => compl xs_26.length es (prs xs_26.length).length) xs_26 ys_26)) (rel2 (relV (fun es => compl xs_26.length es (prs xs_26.length).length) xs_26 ys_26))).2.2))]) (.cons rfl (.cons rfl (.cons rfl (.cons rfl (.cons rfl (.cons rfl (.cons rfl (.cons rfl (.cons rfl (.cons rfl (.cons rfl (.cons (congrArg (fun z => some (Value.bool z)) (by rw [show k = xs_26.length from by omega]; exact hws.symm.trans hok)) (.cons rfl (.cons rfl (.cons rfl (.cons rfl (.cons rfl (.cons rfl (.cons rfl (.cons rfl (.cons rfl (.cons rfl (.cons rfl (.cons rfl (.cons rfl (.cons rfl (.cons rfl (.cons rfl (.cons rfl (.cons rfl (.cons rfl (.cons rfl (.cons rfl (.nil)))))))))))))))))))))))))))))))))) .refl ?_
                      refine ct_keep (L' := [(2, .bool false), (3, .slice A1_26 (xs_26.length) (c1_26)), (4, .slice A2_26 (ys_26.length) (c2_26)), (5, elp (some ⟨g5, 0, none⟩) (0)), (6, elp (some ⟨g6, 0, none⟩) (0)), (7, .bool ((relV (fun es => compl xs_26.length es (prs xs_26.length).length) xs_26 ys_26).isSome)), (13, .bool true), (14, .slice A3 (k) (c3)), (15, .int .i64 (((k : Nat) : Int))), (16, elp (some ⟨g16, 0, none⟩) (0)), (17, elp (some ⟨g17, 0, none⟩) (0)), (18, .bool true), (19, elp (some ⟨g19, 0, none⟩) (0)), (20, .bool true), (101, .int .i64 (((k : Nat) : Int))), (102, .slice A1_26 (xs_26.length) (c1_26)), (103, .int .i64 (((xs_26.length : Nat) : Int))), (104, .bool false), (119, .tuple #[.agg #[.int .i64 (relN (sumTo xs_26 ys_26 k).length (relV (fun es => es) (sumTo xs_26 ys_26 k) ys_26)), .slice A3_122 ((rel1 (relV (fun es => es) (sumTo xs_26 ys_26 k) ys_26)).length) (k3_122)], .agg #[.int .i64 (relN (sumTo xs_26 ys_26 k).length (relV (fun es => es) (sumTo xs_26 ys_26 k) ys_26)), .slice A4_122 ((rel2 (relV (fun es => es) (sumTo xs_26 ys_26 k) ys_26)).length) (k4_122)], .bool ((relV (fun es => es) (sumTo xs_26 ys_26 k) ys_26).isSome)]), (120, .slice A3 (k) (c3)), (121, .slice A2_26 (ys_26.length) (c2_26)), (122, .tuple #[.agg #[.int .i64 (relN (sumTo xs_26 ys_26 k).length (relV (fun es => es) (sumTo xs_26 ys_26 k) ys_26)), .slice A3_122 ((rel1 (relV (fun es => es) (sumTo xs_26 ys_26 k) ys_26)).length) (k3_122)], .agg #[.int .i64 (relN (sumTo xs_26 ys_26 k).length (relV (fun es => es) (sumTo xs_26 ys_26 k) ys_26)), .slice A4_122 ((rel2 (relV (fun es => es) (sumTo xs_26 ys_26 k) ys_26)).length) (k4_122)], .bool ((relV (fun es => es) (sumTo xs_26 ys_26 k) ys_26).isSome)]), (123, .agg #[.int .i64 (relN (sumTo xs_26 ys_26 k).length (relV (fun es => es) (sumTo xs_26 ys_26 k) ys_26)), .slice A3_122 ((rel1 (relV (fun es => es) (sumTo xs_26 ys_26 k) ys_26)).length) (k3_122)]), (124, .agg #[.int .i64 (relN (sumTo xs_26 ys_26 k).length (relV (fun es => es) (sumTo xs_26 ys_26 k) ys_26)), .slice A4_122 ((rel2 (relV (fun es => es) (sumTo xs_26 ys_26 k) ys_26)).length) (k4_122)]), (125, .bool ((relV (fun es => es) (sumTo xs_26 ys_26 k) ys_26).isSome)), (126, .bool ((relV (fun es => compl xs_26.length es (prs xs_26.length).length) xs_26 ys_26).isSome)), (127, .bool false), (134, .tuple #[.agg #[.int .i64 ((uniV (relN xs_26.length (relV (fun es => compl xs_26.length es (prs xs_26.length).length) xs_26 ys_26)) (rel1 (relV (fun es => compl xs_26.length es (prs xs_26.length).length) xs_26 ys_26)) (relN xs_26.length (relV (fun es => compl xs_26.length es (prs xs_26.length).length) xs_26 ys_26)) (rel2 (relV (fun es => compl xs_26.length es (prs xs_26.length).length) xs_26 ys_26))).1), .slice A3_137 ((uniV (relN xs_26.length (relV (fun es => compl xs_26.length es (prs xs_26.length).length) xs_26 ys_26)) (rel1 (relV (fun es => compl xs_26.length es (prs xs_26.length).length) xs_26 ys_26)) (relN xs_26.length (relV (fun es => compl xs_26.length es (prs xs_26.length).length) xs_26 ys_26)) (rel2 (relV (fun es => compl xs_26.length es (prs xs_26.length).length) xs_26 ys_26))).2.1.length) (k3_137)], .bool ((uniV (relN xs_26.length (relV (fun es => compl xs_26.length es (prs xs_26.length).length) xs_26 ys_26)) (rel1 (relV (fun es => compl xs_26.length es (prs xs_26.length).length) xs_26 ys_26)) (relN xs_26.length (relV (fun es => compl xs_26.length es (prs xs_26.length).length) xs_26 ys_26)) (rel2 (relV (fun es => compl xs_26.length es (prs xs_26.length).length) xs_26 ys_26))).2.2)]), (135, .agg #[.int .i64 (relN xs_26.length (relV (fun es => compl xs_26.length es (prs xs_26.length).length) xs_26 ys_26)), .slice A3_32 ((rel1 (relV (fun es => compl xs_26.length es (prs xs_26.length).length) xs_26 ys_26)).length) (k3_32)]), (136, .agg #[.int .i64 (relN xs_26.length (relV (fun es => compl xs_26.length es (prs xs_26.length).length) xs_26 ys_26)), .slice A4_32 ((rel2 (relV (fun es => compl xs_26.length es (prs xs_26.length).length) xs_26 ys_26)).length) (k4_32)]), (137, .tuple #[.agg #[.int .i64 ((uniV (relN xs_26.length (relV (fun es => compl xs_26.length es (prs xs_26.length).length) xs_26 ys_26)) (rel1 (relV (fun es => compl xs_26.length es (prs xs_26.length).length) xs_26 ys_26)) (relN xs_26.length (relV (fun es => compl xs_26.length es (prs xs_26.length).length) xs_26 ys_26)) (rel2 (relV (fun es => compl xs_26.length es (prs xs_26.length).length) xs_26 ys_26))).1), .slice A3_137 ((uniV (relN xs_26.length (relV (fun es => compl xs_26.length es (prs xs_26.length).length) xs_26 ys_26)) (rel1 (relV (fun es => compl xs_26.length es (prs xs_26.length).length) xs_26 ys_26)) (relN xs_26.length (relV (fun es => compl xs_26.length es (prs xs_26.length).length) xs_26 ys_26)) (rel2 (relV (fun es => compl xs_26.length es (prs xs_26.length).length) xs_26 ys_26))).2.1.length) (k3_137)], .bool ((uniV (relN xs_26.length (relV (fun es => compl xs_26.length es (prs xs_26.length).length) xs_26 ys_26)) (rel1 (relV (fun es => compl xs_26.length es (prs xs_26.length).length) xs_26 ys_26)) (relN xs_26.length (relV (fun es => compl xs_26.length es (prs xs_26.length).length) xs_26 ys_26)) (rel2 (relV (fun es => compl xs_26.length es (prs xs_26.length).length) xs_26 ys_26))).2.2)]), (138, .agg #[.int .i64 ((uniV (relN xs_26.length (relV (fun es => compl xs_26.length es (prs xs_26.length).length) xs_26 ys_26)) (rel1 (relV (fun es => compl xs_26.length es (prs xs_26.length).length) xs_26 ys_26)) (relN xs_26.length (relV (fun es => compl xs_26.length es (prs xs_26.length).length) xs_26 ys_26)) (rel2 (relV (fun es => compl xs_26.length es (prs xs_26.length).length) xs_26 ys_26))).1), .slice A3_137 ((uniV (relN xs_26.length (relV (fun es => compl xs_26.length es (prs xs_26.length).length) xs_26 ys_26)) (rel1 (relV (fun es => compl xs_26.length es (prs xs_26.length).length) xs_26 ys_26)) (relN xs_26.length (relV (fun es => compl xs_26.length es (prs xs_26.length).length) xs_26 ys_26)) (rel2 (relV (fun es => compl xs_26.length es (prs xs_26.length).length) xs_26 ys_26))).2.1.length) (k3_137)]), (139, .bool ((uniV (relN xs_26.length (relV (fun es => compl xs_26.length es (prs xs_26.length).length) xs_26 ys_26)) (rel1 (relV (fun es => compl xs_26.length es (prs xs_26.length).length) xs_26 ys_26)) (relN xs_26.length (relV (fun es => compl xs_26.length es (prs xs_26.length).length) xs_26 ys_26)) (rel2 (relV (fun es => compl xs_26.length es (prs xs_26.length).length) xs_26 ys_26))).2.2))]) (.cons rfl (.cons rfl (.cons rfl (.cons rfl (.cons rfl (.cons rfl (.cons rfl (.cons rfl (.cons rfl (.cons rfl (.cons rfl (.cons rfl (.cons rfl (.cons (congrArg (fun z => some (Value.bool z)) (by rw [hN, hu])) (.cons rfl (.cons rfl (.cons rfl (.cons rfl (.cons rfl (.cons rfl (.cons rfl (.cons rfl (.cons rfl (.cons rfl (.cons rfl (.cons rfl (.cons rfl (.cons rfl (.cons rfl (.cons rfl (.cons rfl (.cons rfl (.cons rfl (.nil)))))))))))))))))))))))))))))))))) .refl ?_
                      refine cw_draw mixO [] (.cons (.head) (.cons (.head) (.cons (.head) (.cons (.head) (.cons (.head) (.cons (.head) (.cons (.head) (.cons (.head) (.cons (.head) (.cons (.head) (.cons (.head) (.cons (.head) (.cons (.head) (.cons (.head) (.cons (.head) (.cons (.head) (.cons (.head) (.cons (.head) (.cons (.head) (.cons (.head) (.cons (.head) (.nil)))))))))))))))))))))) rfl ?_
                      refine wg_takep (i := 0) rfl (ov_move rfl) rfl rfl rfl (by kernel_rfl) (by kernel_rfl) (by kernel_rfl) rfl ?_
                      refine wg_takep (i := 1) rfl (ov_move rfl) rfl rfl rfl (by kernel_rfl) (by kernel_rfl) (by kernel_rfl) rfl ?_
                      refine wg_take_go (i := 2) rfl rfl rfl (ov_move rfl) rfl (by kernel_rfl) (by kernel_rfl) (by kernel_rfl) (by kernel_rfl) ?_
                      refine wg_takep (i := 3) rfl (ov_pick_t rfl rfl) rfl rfl rfl (by kernel_rfl) (by kernel_rfl) (by kernel_rfl) rfl ?_
                      refine wg_takep (i := 4) rfl (ov_move rfl) rfl rfl rfl (by kernel_rfl) (by kernel_rfl) (by kernel_rfl) rfl ?_
                      refine wg_take_go (i := 5) rfl rfl rfl (ov_move rfl) rfl (by kernel_rfl) (by kernel_rfl) (by kernel_rfl) (by kernel_rfl) ?_
                      refine wg_takep (i := 6) rfl (ov_pick_t rfl rfl) rfl rfl rfl (by kernel_rfl) (by kernel_rfl) (by kernel_rfl) rfl ?_
                      refine wg_takep (i := 7) rfl (ov_move rfl) rfl rfl rfl (by kernel_rfl) (by kernel_rfl) (by kernel_rfl) rfl ?_
                      refine wg_take_go (i := 8) rfl rfl rfl (ov_loadAgg (vs := [.int .i64 ((uniV (relN xs_26.length (relV (fun es => compl xs_26.length es (prs xs_26.length).length) xs_26 ys_26)) (rel1 (relV (fun es => compl xs_26.length es (prs xs_26.length).length) xs_26 ys_26)) (relN xs_26.length (relV (fun es => compl xs_26.length es (prs xs_26.length).length) xs_26 ys_26)) (rel2 (relV (fun es => compl xs_26.length es (prs xs_26.length).length) xs_26 ys_26))).1), .slice A3_137 ((uniV (relN xs_26.length (relV (fun es => compl xs_26.length es (prs xs_26.length).length) xs_26 ys_26)) (rel1 (relV (fun es => compl xs_26.length es (prs xs_26.length).length) xs_26 ys_26)) (relN xs_26.length (relV (fun es => compl xs_26.length es (prs xs_26.length).length) xs_26 ys_26)) (rel2 (relV (fun es => compl xs_26.length es (prs xs_26.length).length) xs_26 ys_26))).2.1.length) (k3_137)]) tI25 (holds_blk (List.Mem.head _)) rfl some_lit rfl rfl) rfl (by kernel_rfl) (by kernel_rfl) (by kernel_rfl) (by kernel_rfl) ?_
                      refine wg_take_go (i := 10) rfl rfl rfl (ov_move rfl) rfl (by kernel_rfl) (by kernel_rfl) (by kernel_rfl) (by kernel_rfl) ?_
                      refine wg_one (i := 9) (by kernel_rfl) ?_
                      refine go_rg rfl rfl rfl rfl (or_call (fv := []) (vs := [.agg #[.int .i64 ((uniV (relN xs_26.length (relV (fun es => compl xs_26.length es (prs xs_26.length).length) xs_26 ys_26)) (rel1 (relV (fun es => compl xs_26.length es (prs xs_26.length).length) xs_26 ys_26)) (relN xs_26.length (relV (fun es => compl xs_26.length es (prs xs_26.length).length) xs_26 ys_26)) (rel2 (relV (fun es => compl xs_26.length es (prs xs_26.length).length) xs_26 ys_26))).1), .slice A3_137 ((uniV (relN xs_26.length (relV (fun es => compl xs_26.length es (prs xs_26.length).length) xs_26 ys_26)) (rel1 (relV (fun es => compl xs_26.length es (prs xs_26.length).length) xs_26 ys_26)) (relN xs_26.length (relV (fun es => compl xs_26.length es (prs xs_26.length).length) xs_26 ys_26)) (rel2 (relV (fun es => compl xs_26.length es (prs xs_26.length).length) xs_26 ys_26))).2.1.length) (k3_137)]]) (cs := []) en29 rfl rfl (call_x2 (fun w hw => DegreesOfI_c w ((uniV (relN xs_26.length (relV (fun es => compl xs_26.length es (prs xs_26.length).length) xs_26 ys_26)) (rel1 (relV (fun es => compl xs_26.length es (prs xs_26.length).length) xs_26 ys_26)) (relN xs_26.length (relV (fun es => compl xs_26.length es (prs xs_26.length).length) xs_26 ys_26)) (rel2 (relV (fun es => compl xs_26.length es (prs xs_26.length).length) xs_26 ys_26))).1) A3_137 ((uniV (relN xs_26.length (relV (fun es => compl xs_26.length es (prs xs_26.length).length) xs_26 ys_26)) (rel1 (relV (fun es => compl xs_26.length es (prs xs_26.length).length) xs_26 ys_26)) (relN xs_26.length (relV (fun es => compl xs_26.length es (prs xs_26.length).length) xs_26 ys_26)) (rel2 (relV (fun es => compl xs_26.length es (prs xs_26.length).length) xs_26 ys_26))).2.1.length) k3_137 ((uniV (relN xs_26.length (relV (fun es => compl xs_26.length es (prs xs_26.length).length) xs_26 ys_26)) (rel1 (relV (fun es => compl xs_26.length es (prs xs_26.length).length) xs_26 ys_26)) (relN xs_26.length (relV (fun es => compl xs_26.length es (prs xs_26.length).length) xs_26 ys_26)) (rel2 (relV (fun es => compl xs_26.length es (prs xs_26.length).length) xs_26 ys_26))).2.1) ((holds_row (List.Mem.tail _ (List.Mem.head _))) w hw) rfl h_137 (by have := uniV_len (N := relN xs_26.length (relV (fun es => compl xs_26.length es (prs xs_26.length).length) xs_26 ys_26)) (es := rel1 (relV (fun es => compl xs_26.length es (prs xs_26.length).length) xs_26 ys_26)) (M := relN xs_26.length (relV (fun es => compl xs_26.length es (prs xs_26.length).length) xs_26 ys_26)) (fs := rel2 (relV (fun es => compl xs_26.length es (prs xs_26.length).length) xs_26 ys_26)); omega) (by rw [hN, hu]; show ((xs_26.length : Nat) : Int) ≤ _; omega)))) (kt2p rfl (fun A2_149 c2_149 h_149 => ?_))
                      refine gk (.cons (.tail .head) (.cons (.tail .head) (.cons (.tail .head) (.cons (.tail .head) (.cons (.tail .head) (.cons (.tail .head) (.cons (.tail .head) (.cons (.tail .head) (.cons (.tail .head) (.cons (.tail .head) (.cons (.tail .head) (.cons (.tail .head) (.cons (.tail .head) (.cons (.tail .head) (.cons (.tail .head) (.cons (.tail .head) (.cons (.tail .head) (.cons (.tail .head) (.cons (.tail .head) (.cons (.tail .head) (.cons (.tail .head) (.nil)))))))))))))))))))))) ?_
                      refine wg_one (i := 11) (by kernel_rfl) ?_
                      refine go_rg rfl rfl rfl rfl (or_call (fv := []) (vs := [.slice A2_149 ((degV ((uniV (relN xs_26.length (relV (fun es => compl xs_26.length es (prs xs_26.length).length) xs_26 ys_26)) (rel1 (relV (fun es => compl xs_26.length es (prs xs_26.length).length) xs_26 ys_26)) (relN xs_26.length (relV (fun es => compl xs_26.length es (prs xs_26.length).length) xs_26 ys_26)) (rel2 (relV (fun es => compl xs_26.length es (prs xs_26.length).length) xs_26 ys_26))).1) ((uniV (relN xs_26.length (relV (fun es => compl xs_26.length es (prs xs_26.length).length) xs_26 ys_26)) (rel1 (relV (fun es => compl xs_26.length es (prs xs_26.length).length) xs_26 ys_26)) (relN xs_26.length (relV (fun es => compl xs_26.length es (prs xs_26.length).length) xs_26 ys_26)) (rel2 (relV (fun es => compl xs_26.length es (prs xs_26.length).length) xs_26 ys_26))).2.1)).length) (c2_149), .slice A3 (k) (c3)]) (cs := []) en31 rfl rfl (call_v (fun w hw => equalInts_c w A2_149 ((degV ((uniV (relN xs_26.length (relV (fun es => compl xs_26.length es (prs xs_26.length).length) xs_26 ys_26)) (rel1 (relV (fun es => compl xs_26.length es (prs xs_26.length).length) xs_26 ys_26)) (relN xs_26.length (relV (fun es => compl xs_26.length es (prs xs_26.length).length) xs_26 ys_26)) (rel2 (relV (fun es => compl xs_26.length es (prs xs_26.length).length) xs_26 ys_26))).1) ((uniV (relN xs_26.length (relV (fun es => compl xs_26.length es (prs xs_26.length).length) xs_26 ys_26)) (rel1 (relV (fun es => compl xs_26.length es (prs xs_26.length).length) xs_26 ys_26)) (relN xs_26.length (relV (fun es => compl xs_26.length es (prs xs_26.length).length) xs_26 ys_26)) (rel2 (relV (fun es => compl xs_26.length es (prs xs_26.length).length) xs_26 ys_26))).2.1)).length) c2_149 (degV ((uniV (relN xs_26.length (relV (fun es => compl xs_26.length es (prs xs_26.length).length) xs_26 ys_26)) (rel1 (relV (fun es => compl xs_26.length es (prs xs_26.length).length) xs_26 ys_26)) (relN xs_26.length (relV (fun es => compl xs_26.length es (prs xs_26.length).length) xs_26 ys_26)) (rel2 (relV (fun es => compl xs_26.length es (prs xs_26.length).length) xs_26 ys_26))).1) ((uniV (relN xs_26.length (relV (fun es => compl xs_26.length es (prs xs_26.length).length) xs_26 ys_26)) (rel1 (relV (fun es => compl xs_26.length es (prs xs_26.length).length) xs_26 ys_26)) (relN xs_26.length (relV (fun es => compl xs_26.length es (prs xs_26.length).length) xs_26 ys_26)) (rel2 (relV (fun es => compl xs_26.length es (prs xs_26.length).length) xs_26 ys_26))).2.1)) A3 k c3 (sumTo xs_26 ys_26 k) ((holds_row (List.Mem.head _)) w hw) rfl h_149 ((holds_row (List.Mem.tail _ (List.Mem.tail _ (List.Mem.tail _ (List.Mem.tail _ (List.Mem.tail _ (List.Mem.tail _ (List.Mem.tail _ (List.Mem.head _))))))))) w hw) (sumTo_len _ _ _) hk2 (by have := degV_le (N := (uniV (relN xs_26.length (relV (fun es => compl xs_26.length es (prs xs_26.length).length) xs_26 ys_26)) (rel1 (relV (fun es => compl xs_26.length es (prs xs_26.length).length) xs_26 ys_26)) (relN xs_26.length (relV (fun es => compl xs_26.length es (prs xs_26.length).length) xs_26 ys_26)) (rel2 (relV (fun es => compl xs_26.length es (prs xs_26.length).length) xs_26 ys_26))).1) (es := (uniV (relN xs_26.length (relV (fun es => compl xs_26.length es (prs xs_26.length).length) xs_26 ys_26)) (rel1 (relV (fun es => compl xs_26.length es (prs xs_26.length).length) xs_26 ys_26)) (relN xs_26.length (relV (fun es => compl xs_26.length es (prs xs_26.length).length) xs_26 ys_26)) (rel2 (relV (fun es => compl xs_26.length es (prs xs_26.length).length) xs_26 ys_26))).2.1); omega)))) (kt_if rfl (fun c151 => ?_) (fun c151 => ?_))
                      ·
                        refine gk (.cons (.tail .head) (.cons (.tail .head) (.cons (.tail .head) (.cons (.tail .head) (.cons (.tail .head) (.cons (.tail .head) (.cons (.tail .head) (.cons (.tail .head) (.cons (.tail .head) (.cons (.tail .head) (.cons (.tail .head) (.cons (.tail .head) (.cons (.tail .head) (.cons (.tail .head) (.cons (.tail .head) (.cons (.tail .head) (.cons (.tail .head) (.cons (.tail .head) (.cons (.tail .head) (.cons (.tail .head) (.cons (.tail .head) (.nil)))))))))))))))))))))) ?_
                        refine wg_takep (i := 12) rfl (ov_pick_t rfl rfl) rfl rfl rfl (by kernel_rfl) (by kernel_rfl) (by kernel_rfl) rfl ?_
                        refine wg_takep (i := 13) rfl (ov_move rfl) rfl rfl rfl (by kernel_rfl) (by kernel_rfl) (by kernel_rfl) rfl ?_
                        refine wg_take_go (i := 14) rfl rfl rfl (ov_loadAgg (vs := [.int .i64 (relN xs_26.length (relV (fun es => compl xs_26.length es (prs xs_26.length).length) xs_26 ys_26)), .slice A4_32 ((rel2 (relV (fun es => compl xs_26.length es (prs xs_26.length).length) xs_26 ys_26)).length) (k4_32)]) tI25 (holds_blk (List.Mem.tail _ (List.Mem.tail _ (List.Mem.tail _ (List.Mem.tail _ (List.Mem.tail _ (List.Mem.tail _ (List.Mem.tail _ (List.Mem.tail _ (List.Mem.tail _ (List.Mem.tail _ (List.Mem.tail _ (List.Mem.tail _ (List.Mem.tail _ (List.Mem.tail _ (List.Mem.tail _ (List.Mem.head _))))))))))))))))) rfl some_lit rfl rfl) rfl (by kernel_rfl) (by kernel_rfl) (by kernel_rfl) (by kernel_rfl) ?_
                        refine wg_take_go (i := 15) rfl rfl rfl (ov_loadAgg (vs := [.int .i64 (relN xs_26.length (relV (fun es => compl xs_26.length es (prs xs_26.length).length) xs_26 ys_26)), .slice A3_32 ((rel1 (relV (fun es => compl xs_26.length es (prs xs_26.length).length) xs_26 ys_26)).length) (k3_32)]) tI25 (holds_blk (List.Mem.tail _ (List.Mem.tail _ (List.Mem.tail _ (List.Mem.tail _ (List.Mem.tail _ (List.Mem.tail _ (List.Mem.tail _ (List.Mem.tail _ (List.Mem.tail _ (List.Mem.tail _ (List.Mem.tail _ (List.Mem.tail _ (List.Mem.tail _ (List.Mem.tail _ (List.Mem.tail _ (List.Mem.tail _ (List.Mem.head _)))))))))))))))))) rfl some_lit rfl rfl) rfl (by kernel_rfl) (by kernel_rfl) (by kernel_rfl) (by kernel_rfl) ?_
                        refine wg_one (i := 16) (by kernel_rfl) ?_
                        refine go_rg rfl rfl rfl rfl (or_call (fv := []) (vs := [.agg #[.int .i64 (relN xs_26.length (relV (fun es => compl xs_26.length es (prs xs_26.length).length) xs_26 ys_26)), .slice A3_32 ((rel1 (relV (fun es => compl xs_26.length es (prs xs_26.length).length) xs_26 ys_26)).length) (k3_32)]]) (cs := []) en40 rfl rfl (call_x3 (fun w hw => ComplGI_c w (relN xs_26.length (relV (fun es => compl xs_26.length es (prs xs_26.length).length) xs_26 ys_26)) A3_32 ((rel1 (relV (fun es => compl xs_26.length es (prs xs_26.length).length) xs_26 ys_26)).length) k3_32 (rel1 (relV (fun es => compl xs_26.length es (prs xs_26.length).length) xs_26 ys_26)) ((holds_row (List.Mem.tail _ (List.Mem.tail _ (List.Mem.tail _ (List.Mem.tail _ (List.Mem.tail _ (List.Mem.tail _ (List.Mem.tail _ (List.Mem.tail _ (List.Mem.tail _ (List.Mem.tail _ (List.Mem.tail _ (List.Mem.tail _ (List.Mem.tail _ (List.Mem.tail _ (List.Mem.tail _ (List.Mem.tail _ (List.Mem.tail _ (List.Mem.tail _ (List.Mem.head _)))))))))))))))))))) w hw) rfl h_32.1 (by omega) (by rw [hN]; omega)))) (kt3p rfl (fun A3_156 k3_156 c3_156 h_156 => ?_))
                        refine gk (.cons (.tail (.tail .head)) (.cons (.tail (.tail .head)) (.cons (.tail (.tail .head)) (.cons (.tail (.tail .head)) (.cons (.tail (.tail .head)) (.cons (.tail (.tail .head)) (.cons (.tail (.tail .head)) (.cons (.tail (.tail .head)) (.cons (.tail (.tail .head)) (.cons (.tail (.tail .head)) (.cons (.tail (.tail .head)) (.cons (.tail (.tail .head)) (.cons (.tail (.tail .head)) (.cons (.tail (.tail .head)) (.cons (.tail (.tail .head)) (.cons (.tail (.tail .head)) (.cons (.tail (.tail .head)) (.cons (.tail (.tail .head)) (.cons (.tail (.tail .head)) (.cons (.tail (.tail .head)) (.cons (.tail (.tail .head)) (.nil)))))))))))))))))))))) ?_
                        refine wg_one (i := 17) (by kernel_rfl) ?_
                        refine go_rg rfl rfl rfl rfl (or_call (fv := []) (vs := [.agg #[.int .i64 (relN xs_26.length (relV (fun es => compl xs_26.length es (prs xs_26.length).length) xs_26 ys_26)), .slice A4_32 ((rel2 (relV (fun es => compl xs_26.length es (prs xs_26.length).length) xs_26 ys_26)).length) (k4_32)], .agg #[.int .i64 ((cplV (relN xs_26.length (relV (fun es => compl xs_26.length es (prs xs_26.length).length) xs_26 ys_26)) (rel1 (relV (fun es => compl xs_26.length es (prs xs_26.length).length) xs_26 ys_26))).1), .slice A3_156 ((cplV (relN xs_26.length (relV (fun es => compl xs_26.length es (prs xs_26.length).length) xs_26 ys_26)) (rel1 (relV (fun es => compl xs_26.length es (prs xs_26.length).length) xs_26 ys_26))).2.length) (k3_156)]]) (cs := []) en30 rfl rfl (call_v (fun w hw => IsPartI_c w (relN xs_26.length (relV (fun es => compl xs_26.length es (prs xs_26.length).length) xs_26 ys_26)) A4_32 ((rel2 (relV (fun es => compl xs_26.length es (prs xs_26.length).length) xs_26 ys_26)).length) k4_32 (rel2 (relV (fun es => compl xs_26.length es (prs xs_26.length).length) xs_26 ys_26)) ((cplV (relN xs_26.length (relV (fun es => compl xs_26.length es (prs xs_26.length).length) xs_26 ys_26)) (rel1 (relV (fun es => compl xs_26.length es (prs xs_26.length).length) xs_26 ys_26))).1) A3_156 ((cplV (relN xs_26.length (relV (fun es => compl xs_26.length es (prs xs_26.length).length) xs_26 ys_26)) (rel1 (relV (fun es => compl xs_26.length es (prs xs_26.length).length) xs_26 ys_26))).2.length) k3_156 ((cplV (relN xs_26.length (relV (fun es => compl xs_26.length es (prs xs_26.length).length) xs_26 ys_26)) (rel1 (relV (fun es => compl xs_26.length es (prs xs_26.length).length) xs_26 ys_26))).2) ((holds_row (List.Mem.tail _ (List.Mem.tail _ (List.Mem.tail _ (List.Mem.tail _ (List.Mem.tail _ (List.Mem.tail _ (List.Mem.tail _ (List.Mem.tail _ (List.Mem.tail _ (List.Mem.tail _ (List.Mem.tail _ (List.Mem.tail _ (List.Mem.tail _ (List.Mem.tail _ (List.Mem.tail _ (List.Mem.tail _ (List.Mem.tail _ (List.Mem.tail _ (List.Mem.tail _ (List.Mem.tail _ (List.Mem.head _)))))))))))))))))))))) w hw) rfl h_32.2 ((holds_row (List.Mem.head _)) w hw) rfl h_156 (by have := cplV_len (N := relN xs_26.length (relV (fun es => compl xs_26.length es (prs xs_26.length).length) xs_26 ys_26)) (es := rel1 (relV (fun es => compl xs_26.length es (prs xs_26.length).length) xs_26 ys_26)); omega) (by rw [hN, hc]; show ((xs_26.length : Nat) : Int) ≤ _ ∧ ((xs_26.length : Nat) : Int) ≤ _; omega)))) (kt_if rfl (fun c157 => ?_) (fun c157 => ?_))
                        ·
                          refine gk (.cons (.tail (.tail .head)) (.cons (.tail (.tail .head)) (.cons (.tail (.tail .head)) (.cons (.tail (.tail .head)) (.cons (.tail (.tail .head)) (.cons (.tail (.tail .head)) (.cons (.tail (.tail .head)) (.cons (.tail (.tail .head)) (.cons (.tail (.tail .head)) (.cons (.tail (.tail .head)) (.cons (.tail (.tail .head)) (.cons (.tail (.tail .head)) (.cons (.tail (.tail .head)) (.cons (.tail (.tail .head)) (.cons (.tail (.tail .head)) (.cons (.tail (.tail .head)) (.cons (.tail (.tail .head)) (.cons (.tail (.tail .head)) (.cons (.tail (.tail .head)) (.cons (.tail (.tail .head)) (.cons (.tail (.tail .head)) (.nil)))))))))))))))))))))) ?_
                          refine wg_takep (i := 18) rfl (ov_pick_t rfl rfl) rfl rfl rfl (by kernel_rfl) (by kernel_rfl) (by kernel_rfl) rfl ?_
                          refine wg_takep (i := 19) rfl (ov_move rfl) rfl rfl rfl (by kernel_rfl) (by kernel_rfl) (by kernel_rfl) rfl ?_
                          refine wg_take_go (i := 20) rfl rfl rfl (ov_loadAgg (vs := [.int .i64 (relN xs_26.length (relV (fun es => compl xs_26.length es (prs xs_26.length).length) xs_26 ys_26)), .slice A3_32 ((rel1 (relV (fun es => compl xs_26.length es (prs xs_26.length).length) xs_26 ys_26)).length) (k3_32)]) tI25 (holds_blk (List.Mem.tail _ (List.Mem.tail _ (List.Mem.tail _ (List.Mem.tail _ (List.Mem.tail _ (List.Mem.tail _ (List.Mem.tail _ (List.Mem.tail _ (List.Mem.tail _ (List.Mem.tail _ (List.Mem.tail _ (List.Mem.tail _ (List.Mem.tail _ (List.Mem.tail _ (List.Mem.tail _ (List.Mem.tail _ (List.Mem.head _)))))))))))))))))) rfl some_lit rfl rfl) rfl (by kernel_rfl) (by kernel_rfl) (by kernel_rfl) (by kernel_rfl) ?_
                          refine wg_take_go (i := 22) rfl rfl rfl (ov_move rfl) rfl (by kernel_rfl) (by kernel_rfl) (by kernel_rfl) (by kernel_rfl) ?_
                          refine wg_one (i := 21) (by kernel_rfl) ?_
                          refine go_rg rfl rfl rfl rfl (or_call (fv := []) (vs := [.agg #[.int .i64 (relN xs_26.length (relV (fun es => compl xs_26.length es (prs xs_26.length).length) xs_26 ys_26)), .slice A3_32 ((rel1 (relV (fun es => compl xs_26.length es (prs xs_26.length).length) xs_26 ys_26)).length) (k3_32)]]) (cs := []) en29 rfl rfl (call_x2 (fun w hw => DegreesOfI_c w (relN xs_26.length (relV (fun es => compl xs_26.length es (prs xs_26.length).length) xs_26 ys_26)) A3_32 ((rel1 (relV (fun es => compl xs_26.length es (prs xs_26.length).length) xs_26 ys_26)).length) k3_32 (rel1 (relV (fun es => compl xs_26.length es (prs xs_26.length).length) xs_26 ys_26)) ((holds_row (List.Mem.tail _ (List.Mem.tail _ (List.Mem.tail _ (List.Mem.tail _ (List.Mem.tail _ (List.Mem.tail _ (List.Mem.tail _ (List.Mem.tail _ (List.Mem.tail _ (List.Mem.tail _ (List.Mem.tail _ (List.Mem.tail _ (List.Mem.tail _ (List.Mem.tail _ (List.Mem.tail _ (List.Mem.tail _ (List.Mem.tail _ (List.Mem.tail _ (List.Mem.tail _ (List.Mem.head _))))))))))))))))))))) w hw) rfl h_32.1 (by omega) (by rw [hN]; omega)))) (kt2p rfl (fun A2_161 c2_161 h_161 => ?_))
                          refine gk (.cons (.tail (.tail (.tail .head))) (.cons (.tail (.tail (.tail .head))) (.cons (.tail (.tail (.tail .head))) (.cons (.tail (.tail (.tail .head))) (.cons (.tail (.tail (.tail .head))) (.cons (.tail (.tail (.tail .head))) (.cons (.tail (.tail (.tail .head))) (.cons (.tail (.tail (.tail .head))) (.cons (.tail (.tail (.tail .head))) (.cons (.tail (.tail (.tail .head))) (.cons (.tail (.tail (.tail .head))) (.cons (.tail (.tail (.tail .head))) (.cons (.tail (.tail (.tail .head))) (.cons (.tail (.tail (.tail .head))) (.cons (.tail (.tail (.tail .head))) (.cons (.tail (.tail (.tail .head))) (.cons (.tail (.tail (.tail .head))) (.cons (.tail (.tail (.tail .head))) (.cons (.tail (.tail (.tail .head))) (.cons (.tail (.tail (.tail .head))) (.cons (.tail (.tail (.tail .head))) (.nil)))))))))))))))))))))) ?_
                          refine wg_one (i := 23) (by kernel_rfl) ?_
                          refine go_rg rfl rfl rfl rfl (or_call (fv := []) (vs := [.slice A2_161 ((degV (relN xs_26.length (relV (fun es => compl xs_26.length es (prs xs_26.length).length) xs_26 ys_26)) (rel1 (relV (fun es => compl xs_26.length es (prs xs_26.length).length) xs_26 ys_26))).length) (c2_161), .slice A1_26 (xs_26.length) (c1_26)]) (cs := []) en31 rfl rfl (call_v (fun w hw => equalInts_c w A2_161 ((degV (relN xs_26.length (relV (fun es => compl xs_26.length es (prs xs_26.length).length) xs_26 ys_26)) (rel1 (relV (fun es => compl xs_26.length es (prs xs_26.length).length) xs_26 ys_26))).length) c2_161 (degV (relN xs_26.length (relV (fun es => compl xs_26.length es (prs xs_26.length).length) xs_26 ys_26)) (rel1 (relV (fun es => compl xs_26.length es (prs xs_26.length).length) xs_26 ys_26))) A1_26 xs_26.length c1_26 xs_26 ((holds_row (List.Mem.head _)) w hw) rfl h_161 ((holds_row (List.Mem.tail _ (List.Mem.tail _ (List.Mem.tail _ (List.Mem.tail _ (List.Mem.tail _ (List.Mem.tail _ (List.Mem.tail _ (List.Mem.tail _ (List.Mem.tail _ (List.Mem.tail _ (List.Mem.tail _ (List.Mem.tail _ (List.Mem.tail _ (List.Mem.tail _ (List.Mem.tail _ (List.Mem.tail _ (List.Mem.tail _ (List.Mem.tail _ (List.Mem.tail _ (List.Mem.tail _ (List.Mem.tail _ (List.Mem.tail _ (List.Mem.head _)))))))))))))))))))))))) w hw) rfl h_26.1.1 (by have := degV_le (N := relN xs_26.length (relV (fun es => compl xs_26.length es (prs xs_26.length).length) xs_26 ys_26)) (es := rel1 (relV (fun es => compl xs_26.length es (prs xs_26.length).length) xs_26 ys_26)); omega)))) (kt_if rfl (fun c163 => ?_) (fun c163 => ?_))
                          ·
                            refine gk (.cons (.tail (.tail (.tail .head))) (.cons (.tail (.tail (.tail .head))) (.cons (.tail (.tail (.tail .head))) (.cons (.tail (.tail (.tail .head))) (.cons (.tail (.tail (.tail .head))) (.cons (.tail (.tail (.tail .head))) (.cons (.tail (.tail (.tail .head))) (.cons (.tail (.tail (.tail .head))) (.cons (.tail (.tail (.tail .head))) (.cons (.tail (.tail (.tail .head))) (.cons (.tail (.tail (.tail .head))) (.cons (.tail (.tail (.tail .head))) (.cons (.tail (.tail (.tail .head))) (.cons (.tail (.tail (.tail .head))) (.cons (.tail (.tail (.tail .head))) (.cons (.tail (.tail (.tail .head))) (.cons (.tail (.tail (.tail .head))) (.cons (.tail (.tail (.tail .head))) (.cons (.tail (.tail (.tail .head))) (.cons (.tail (.tail (.tail .head))) (.cons (.tail (.tail (.tail .head))) (.nil)))))))))))))))))))))) ?_
                            refine wg_takep (i := 24) rfl (ov_pick_t rfl rfl) rfl rfl rfl (by kernel_rfl) (by kernel_rfl) (by kernel_rfl) rfl ?_
                            refine wg_takep (i := 25) rfl (ov_assign rfl) rfl rfl rfl (by kernel_rfl) (by kernel_rfl) (by kernel_rfl) rfl ?_
                            refine wg_done (by kernel_rfl) ?_
                            refine ce_then ?_
                            refine cw_ret ?_
                            refine ce_results (v := .bool true) (res1 rfl (rv_t rfl)) (fun w' hw => ?_)
                            exact ⟨rfl, (Keep.nil.ss hw).to_new⟩
                          ·
                            refine gk (.cons (.tail (.tail (.tail .head))) (.cons (.tail (.tail (.tail .head))) (.cons (.tail (.tail (.tail .head))) (.cons (.tail (.tail (.tail .head))) (.cons (.tail (.tail (.tail .head))) (.cons (.tail (.tail (.tail .head))) (.cons (.tail (.tail (.tail .head))) (.cons (.tail (.tail (.tail .head))) (.cons (.tail (.tail (.tail .head))) (.cons (.tail (.tail (.tail .head))) (.cons (.tail (.tail (.tail .head))) (.cons (.tail (.tail (.tail .head))) (.cons (.tail (.tail (.tail .head))) (.cons (.tail (.tail (.tail .head))) (.cons (.tail (.tail (.tail .head))) (.cons (.tail (.tail (.tail .head))) (.cons (.tail (.tail (.tail .head))) (.cons (.tail (.tail (.tail .head))) (.cons (.tail (.tail (.tail .head))) (.cons (.tail (.tail (.tail .head))) (.cons (.tail (.tail (.tail .head))) (.nil)))))))))))))))))))))) ?_
                            refine wg_takep (i := 24) rfl (ov_pick_t rfl rfl) rfl rfl rfl (by kernel_rfl) (by kernel_rfl) (by kernel_rfl) rfl ?_
                            refine wg_takep (i := 25) rfl (ov_assign rfl) rfl rfl rfl (by kernel_rfl) (by kernel_rfl) (by kernel_rfl) rfl ?_
                            refine wg_done (by kernel_rfl) ?_
                            refine ce_then ?_
                            refine cw_ret ?_
                            refine ce_results (v := .bool false) (res1 rfl (rv_t rfl)) (fun w' hw => ?_)
                            exfalso
                            exact c163 (by rw [hN]; exact hd1)
                        ·
                          refine gk (.cons (.tail (.tail .head)) (.cons (.tail (.tail .head)) (.cons (.tail (.tail .head)) (.cons (.tail (.tail .head)) (.cons (.tail (.tail .head)) (.cons (.tail (.tail .head)) (.cons (.tail (.tail .head)) (.cons (.tail (.tail .head)) (.cons (.tail (.tail .head)) (.cons (.tail (.tail .head)) (.cons (.tail (.tail .head)) (.cons (.tail (.tail .head)) (.cons (.tail (.tail .head)) (.cons (.tail (.tail .head)) (.cons (.tail (.tail .head)) (.cons (.tail (.tail .head)) (.cons (.tail (.tail .head)) (.cons (.tail (.tail .head)) (.cons (.tail (.tail .head)) (.cons (.tail (.tail .head)) (.cons (.tail (.tail .head)) (.nil)))))))))))))))))))))) ?_
                          refine wg_takep (i := 18) rfl (ov_pick_t rfl rfl) rfl rfl rfl (by kernel_rfl) (by kernel_rfl) (by kernel_rfl) rfl ?_
                          refine wg_takep (i := 19) rfl (ov_move rfl) rfl rfl rfl (by kernel_rfl) (by kernel_rfl) (by kernel_rfl) rfl ?_
                          refine wg_take_not (i := 20) rfl rfl rfl rfl rfl (by kernel_rfl) (by kernel_rfl) (by kernel_rfl) (by kernel_rfl) ?_
                          refine wg_take_not (i := 21) rfl rfl rfl rfl rfl (by kernel_rfl) (by kernel_rfl) (by kernel_rfl) (by kernel_rfl) ?_
                          refine wg_take_not (i := 22) rfl rfl rfl rfl rfl (by kernel_rfl) (by kernel_rfl) (by kernel_rfl) (by kernel_rfl) ?_
                          refine wg_take_not (i := 23) rfl rfl rfl rfl rfl (by kernel_rfl) (by kernel_rfl) (by kernel_rfl) (by kernel_rfl) ?_
                          refine wg_takep (i := 24) rfl (ov_pick_f rfl rfl) rfl rfl rfl (by kernel_rfl) (by kernel_rfl) (by kernel_rfl) rfl ?_
                          refine wg_takep (i := 25) rfl (ov_assign rfl) rfl rfl rfl (by kernel_rfl) (by kernel_rfl) (by kernel_rfl) rfl ?_
                          refine wg_done (by kernel_rfl) ?_
                          refine ce_then ?_
                          refine cw_ret ?_
                          refine ce_results (v := .bool false) (res1 rfl (rv_t rfl)) (fun w' hw => ?_)
                          exfalso
                          exact c157 ⟨⟨by rw [hN, hc]; exact hcv, by rw [hN]; exact hv2, by rw [hN, hc]⟩, by rw [hN, hc]; exact hsub⟩
                      ·
                        refine gk (.cons (.tail .head) (.cons (.tail .head) (.cons (.tail .head) (.cons (.tail .head) (.cons (.tail .head) (.cons (.tail .head) (.cons (.tail .head) (.cons (.tail .head) (.cons (.tail .head) (.cons (.tail .head) (.cons (.tail .head) (.cons (.tail .head) (.cons (.tail .head) (.cons (.tail .head) (.cons (.tail .head) (.cons (.tail .head) (.cons (.tail .head) (.cons (.tail .head) (.cons (.tail .head) (.cons (.tail .head) (.cons (.tail .head) (.nil)))))))))))))))))))))) ?_
                        refine wg_takep (i := 12) rfl (ov_pick_t rfl rfl) rfl rfl rfl (by kernel_rfl) (by kernel_rfl) (by kernel_rfl) rfl ?_
                        refine wg_takep (i := 13) rfl (ov_move rfl) rfl rfl rfl (by kernel_rfl) (by kernel_rfl) (by kernel_rfl) rfl ?_
                        refine wg_take_not (i := 14) rfl rfl rfl rfl rfl (by kernel_rfl) (by kernel_rfl) (by kernel_rfl) (by kernel_rfl) ?_
                        refine wg_take_not (i := 15) rfl rfl rfl rfl rfl (by kernel_rfl) (by kernel_rfl) (by kernel_rfl) (by kernel_rfl) ?_
                        refine wg_take_not (i := 16) rfl rfl rfl rfl rfl (by kernel_rfl) (by kernel_rfl) (by kernel_rfl) (by kernel_rfl) ?_
                        refine wg_take_not (i := 17) rfl rfl rfl rfl rfl (by kernel_rfl) (by kernel_rfl) (by kernel_rfl) (by kernel_rfl) ?_
                        refine wg_takep (i := 18) rfl (ov_pick_f rfl rfl) rfl rfl rfl (by kernel_rfl) (by kernel_rfl) (by kernel_rfl) rfl ?_
                        refine wg_takep (i := 19) rfl (ov_move rfl) rfl rfl rfl (by kernel_rfl) (by kernel_rfl) (by kernel_rfl) rfl ?_
                        refine wg_take_not (i := 20) rfl rfl rfl rfl rfl (by kernel_rfl) (by kernel_rfl) (by kernel_rfl) (by kernel_rfl) ?_
                        refine wg_take_not (i := 21) rfl rfl rfl rfl rfl (by kernel_rfl) (by kernel_rfl) (by kernel_rfl) (by kernel_rfl) ?_
                        refine wg_take_not (i := 22) rfl rfl rfl rfl rfl (by kernel_rfl) (by kernel_rfl) (by kernel_rfl) (by kernel_rfl) ?_
                        refine wg_take_not (i := 23) rfl rfl rfl rfl rfl (by kernel_rfl) (by kernel_rfl) (by kernel_rfl) (by kernel_rfl) ?_
                        refine wg_takep (i := 24) rfl (ov_pick_f rfl rfl) rfl rfl rfl (by kernel_rfl) (by kernel_rfl) (by kernel_rfl) rfl ?_
                        refine wg_takep (i := 25) rfl (ov_assign rfl) rfl rfl rfl (by kernel_rfl) (by kernel_rfl) (by kernel_rfl) rfl ?_
                        refine wg_done (by kernel_rfl) ?_
                        refine ce_then ?_
                        refine cw_ret ?_
                        refine ce_results (v := .bool false) (res1 rfl (rv_t rfl)) (fun w' hw => ?_)
                        exfalso
                        exact c151 (by rw [hN, hu, show k = xs_26.length from by omega]; exact hud)
            ·
              refine wl_go rfl rfl ?_
              refine wl_v (ov_not rfl) rfl rfl rfl ?_
              refine wl_v (ov_pick_f rfl rfl) rfl rfl rfl ?_
              refine wl_v (ov_move rfl) rfl rfl rfl ?_
              refine wl_not rfl rfl rfl rfl rfl rfl ?_
              refine wl_not rfl rfl rfl rfl rfl rfl ?_
              refine wl_not rfl rfl rfl rfl rfl rfl ?_
              refine wl_not rfl rfl rfl rfl rfl rfl ?_
              refine wl_not rfl rfl rfl rfl rfl rfl ?_
              refine wl_v (ov_pick_t rfl rfl) rfl rfl rfl ?_
              refine wl_v (ov_move rfl) rfl rfl rfl ?_
              refine wl_not rfl rfl rfl rfl rfl rfl ?_
              refine wl_not rfl rfl rfl rfl rfl rfl ?_
              refine wl_not rfl rfl rfl rfl rfl rfl ?_
              refine wl_v (ov_pick_t rfl rfl) rfl rfl rfl ?_
              refine wl_nil ?_
              refine ce_then ?_
              refine cw_true rfl ?_
              refine cw_seq ?_
              refine cw_region ?_
              refine wl_v (ov_loadAgg (vs := [.int .i64 (relN xs_26.length (relV (fun es => compl xs_26.length es (prs xs_26.length).length) xs_26 ys_26)), .slice A3_32 ((rel1 (relV (fun es => compl xs_26.length es (prs xs_26.length).length) xs_26 ys_26)).length) (k3_32)]) tI25 (holds_blk (List.Mem.tail _ (List.Mem.tail _ (List.Mem.tail _ (List.Mem.tail _ (List.Mem.tail _ (List.Mem.head _))))))) rfl some_lit rfl rfl) rfl rfl rfl ?_
              refine wl_v (ov_loadAgg (vs := [.int .i64 (relN xs_26.length (relV (fun es => compl xs_26.length es (prs xs_26.length).length) xs_26 ys_26)), .slice A3_39 ((rel1 (relV (fun es => compl xs_26.length es (prs xs_26.length).length) xs_26 ys_26)).length) (k3_39)]) tI25 (holds_blk (List.Mem.tail _ (List.Mem.head _))) rfl some_lit rfl rfl) rfl rfl rfl ?_
              refine wl_r (or_call (fv := []) (vs := [.agg #[.int .i64 (relN xs_26.length (relV (fun es => compl xs_26.length es (prs xs_26.length).length) xs_26 ys_26)), .slice A3_32 ((rel1 (relV (fun es => compl xs_26.length es (prs xs_26.length).length) xs_26 ys_26)).length) (k3_32)], .agg #[.int .i64 (relN xs_26.length (relV (fun es => compl xs_26.length es (prs xs_26.length).length) xs_26 ys_26)), .slice A3_39 ((rel1 (relV (fun es => compl xs_26.length es (prs xs_26.length).length) xs_26 ys_26)).length) (k3_39)]]) (cs := []) en28 rfl rfl (call_v (fun w hw => equalGraph_c w (relN xs_26.length (relV (fun es => compl xs_26.length es (prs xs_26.length).length) xs_26 ys_26)) A3_32 ((rel1 (relV (fun es => compl xs_26.length es (prs xs_26.length).length) xs_26 ys_26)).length) k3_32 (rel1 (relV (fun es => compl xs_26.length es (prs xs_26.length).length) xs_26 ys_26)) (relN xs_26.length (relV (fun es => compl xs_26.length es (prs xs_26.length).length) xs_26 ys_26)) A3_39 ((rel1 (relV (fun es => compl xs_26.length es (prs xs_26.length).length) xs_26 ys_26)).length) k3_39 (rel1 (relV (fun es => compl xs_26.length es (prs xs_26.length).length) xs_26 ys_26)) ((holds_row (List.Mem.tail _ (List.Mem.tail _ (List.Mem.tail _ (List.Mem.tail _ (List.Mem.tail _ (List.Mem.tail _ (List.Mem.head _)))))))) w hw) rfl h_32.1 ((holds_row (List.Mem.tail _ (List.Mem.tail _ (List.Mem.head _)))) w hw) rfl h_39.1 (by omega)))) rfl rfl (kt_if rfl (fun c82 => ?_) (fun c82 => ?_))
              ·
                refine wl_v (ov_move rfl) rfl rfl rfl ?_
                refine wl_go rfl rfl ?_
                refine wl_v (ov_loadAgg (vs := [.int .i64 (relN xs_26.length (relV (fun es => compl xs_26.length es (prs xs_26.length).length) xs_26 ys_26)), .slice A4_32 ((rel2 (relV (fun es => compl xs_26.length es (prs xs_26.length).length) xs_26 ys_26)).length) (k4_32)]) tI25 (holds_blk (List.Mem.tail _ (List.Mem.tail _ (List.Mem.tail _ (List.Mem.tail _ (List.Mem.head _)))))) rfl some_lit rfl rfl) rfl rfl rfl ?_
                refine wl_go rfl rfl ?_
                refine wl_v (ov_loadAgg (vs := [.int .i64 (relN xs_26.length (relV (fun es => compl xs_26.length es (prs xs_26.length).length) xs_26 ys_26)), .slice A4_39 ((rel2 (relV (fun es => compl xs_26.length es (prs xs_26.length).length) xs_26 ys_26)).length) (k4_39)]) tI25 (holds_blk (List.Mem.head _)) rfl some_lit rfl rfl) rfl rfl rfl ?_
                refine wl_go rfl rfl ?_
                refine wl_r (or_call (fv := []) (vs := [.agg #[.int .i64 (relN xs_26.length (relV (fun es => compl xs_26.length es (prs xs_26.length).length) xs_26 ys_26)), .slice A4_32 ((rel2 (relV (fun es => compl xs_26.length es (prs xs_26.length).length) xs_26 ys_26)).length) (k4_32)], .agg #[.int .i64 (relN xs_26.length (relV (fun es => compl xs_26.length es (prs xs_26.length).length) xs_26 ys_26)), .slice A4_39 ((rel2 (relV (fun es => compl xs_26.length es (prs xs_26.length).length) xs_26 ys_26)).length) (k4_39)]]) (cs := []) en28 rfl rfl (call_v (fun w hw => equalGraph_c w (relN xs_26.length (relV (fun es => compl xs_26.length es (prs xs_26.length).length) xs_26 ys_26)) A4_32 ((rel2 (relV (fun es => compl xs_26.length es (prs xs_26.length).length) xs_26 ys_26)).length) k4_32 (rel2 (relV (fun es => compl xs_26.length es (prs xs_26.length).length) xs_26 ys_26)) (relN xs_26.length (relV (fun es => compl xs_26.length es (prs xs_26.length).length) xs_26 ys_26)) A4_39 ((rel2 (relV (fun es => compl xs_26.length es (prs xs_26.length).length) xs_26 ys_26)).length) k4_39 (rel2 (relV (fun es => compl xs_26.length es (prs xs_26.length).length) xs_26 ys_26)) ((holds_row (List.Mem.tail _ (List.Mem.tail _ (List.Mem.tail _ (List.Mem.tail _ (List.Mem.tail _ (List.Mem.tail _ (List.Mem.tail _ (List.Mem.head _))))))))) w hw) rfl h_32.2 ((holds_row (List.Mem.tail _ (List.Mem.tail _ (List.Mem.tail _ (List.Mem.head _))))) w hw) rfl h_39.2 (by omega)))) rfl rfl (kt_if rfl (fun c86 => ?_) (fun c86 => ?_))
                ·
                  refine wl_v (ov_pick_t rfl rfl) rfl rfl rfl ?_
                  refine wl_v (ov_move rfl) rfl rfl rfl ?_
                  refine wl_go rfl rfl ?_
                  refine wl_v (ov_move rfl) rfl rfl rfl ?_
                  refine wl_go rfl rfl ?_
                  refine wl_v (ov_move rfl) rfl rfl rfl ?_
                  refine wl_go rfl rfl ?_
                  refine wl_if (OpV.dec (ov_eqlb uI4 rfl rfl)) rfl rfl rfl (fun c91 => ?_) (fun c91 => ?_)
                  ·
                    refine wl_v (ov_pick_t rfl rfl) rfl rfl rfl ?_
                    refine wl_v (ov_assign rfl) rfl rfl rfl ?_
                    refine wl_nil ?_
                    refine ce_then ?_
                    refine cw_ret ?_
                    refine ce_then_ret ?_
                    refine ce_results (v := .bool true) (res1 rfl (rv_t rfl)) (fun w' hw => ?_)
                    exact ⟨rfl, (Keep.nil.ss hw).to_new⟩
                  ·
                    simp at c91
                ·
                  exact absurd ⟨rfl, rfl⟩ c86
              ·
                exact absurd ⟨rfl, rfl⟩ c82
          ·
            refine wl_go rfl rfl ?_
            refine wl_v (ov_not rfl) rfl rfl rfl ?_
            refine wl_v (ov_pick_f rfl rfl) rfl rfl rfl ?_
            refine wl_v (ov_move rfl) rfl rfl rfl ?_
            refine wl_not rfl rfl rfl rfl rfl rfl ?_
            refine wl_not rfl rfl rfl rfl rfl rfl ?_
            refine wl_not rfl rfl rfl rfl rfl rfl ?_
            refine wl_v (ov_pick_t rfl rfl) rfl rfl rfl ?_
            refine wl_v (ov_move rfl) rfl rfl rfl ?_
            refine wl_not rfl rfl rfl rfl rfl rfl ?_
            refine wl_not rfl rfl rfl rfl rfl rfl ?_
            refine wl_not rfl rfl rfl rfl rfl rfl ?_
            refine wl_not rfl rfl rfl rfl rfl rfl ?_
            refine wl_not rfl rfl rfl rfl rfl rfl ?_
            refine wl_v (ov_pick_t rfl rfl) rfl rfl rfl ?_
            refine wl_v (ov_move rfl) rfl rfl rfl ?_
            refine wl_not rfl rfl rfl rfl rfl rfl ?_
            refine wl_not rfl rfl rfl rfl rfl rfl ?_
            refine wl_not rfl rfl rfl rfl rfl rfl ?_
            refine wl_v (ov_pick_t rfl rfl) rfl rfl rfl ?_
            refine wl_nil ?_
            refine ce_then ?_
            refine cw_true rfl ?_
            refine cw_seq ?_
            refine cw_region ?_
            refine wl_v (ov_loadAgg (vs := [.int .i64 (relN xs_26.length (relV (fun es => compl xs_26.length es (prs xs_26.length).length) xs_26 ys_26)), .slice A3_32 ((rel1 (relV (fun es => compl xs_26.length es (prs xs_26.length).length) xs_26 ys_26)).length) (k3_32)]) tI25 (holds_blk (List.Mem.tail _ (List.Mem.tail _ (List.Mem.tail _ (List.Mem.tail _ (List.Mem.tail _ (List.Mem.head _))))))) rfl some_lit rfl rfl) rfl rfl rfl ?_
            refine wl_v (ov_loadAgg (vs := [.int .i64 (relN xs_26.length (relV (fun es => compl xs_26.length es (prs xs_26.length).length) xs_26 ys_26)), .slice A3_39 ((rel1 (relV (fun es => compl xs_26.length es (prs xs_26.length).length) xs_26 ys_26)).length) (k3_39)]) tI25 (holds_blk (List.Mem.tail _ (List.Mem.head _))) rfl some_lit rfl rfl) rfl rfl rfl ?_
            refine wl_r (or_call (fv := []) (vs := [.agg #[.int .i64 (relN xs_26.length (relV (fun es => compl xs_26.length es (prs xs_26.length).length) xs_26 ys_26)), .slice A3_32 ((rel1 (relV (fun es => compl xs_26.length es (prs xs_26.length).length) xs_26 ys_26)).length) (k3_32)], .agg #[.int .i64 (relN xs_26.length (relV (fun es => compl xs_26.length es (prs xs_26.length).length) xs_26 ys_26)), .slice A3_39 ((rel1 (relV (fun es => compl xs_26.length es (prs xs_26.length).length) xs_26 ys_26)).length) (k3_39)]]) (cs := []) en28 rfl rfl (call_v (fun w hw => equalGraph_c w (relN xs_26.length (relV (fun es => compl xs_26.length es (prs xs_26.length).length) xs_26 ys_26)) A3_32 ((rel1 (relV (fun es => compl xs_26.length es (prs xs_26.length).length) xs_26 ys_26)).length) k3_32 (rel1 (relV (fun es => compl xs_26.length es (prs xs_26.length).length) xs_26 ys_26)) (relN xs_26.length (relV (fun es => compl xs_26.length es (prs xs_26.length).length) xs_26 ys_26)) A3_39 ((rel1 (relV (fun es => compl xs_26.length es (prs xs_26.length).length) xs_26 ys_26)).length) k3_39 (rel1 (relV (fun es => compl xs_26.length es (prs xs_26.length).length) xs_26 ys_26)) ((holds_row (List.Mem.tail _ (List.Mem.tail _ (List.Mem.tail _ (List.Mem.tail _ (List.Mem.tail _ (List.Mem.tail _ (List.Mem.head _)))))))) w hw) rfl h_32.1 ((holds_row (List.Mem.tail _ (List.Mem.tail _ (List.Mem.head _)))) w hw) rfl h_39.1 (by omega)))) rfl rfl (kt_if rfl (fun c82 => ?_) (fun c82 => ?_))
            ·
              refine wl_v (ov_move rfl) rfl rfl rfl ?_
              refine wl_go rfl rfl ?_
              refine wl_v (ov_loadAgg (vs := [.int .i64 (relN xs_26.length (relV (fun es => compl xs_26.length es (prs xs_26.length).length) xs_26 ys_26)), .slice A4_32 ((rel2 (relV (fun es => compl xs_26.length es (prs xs_26.length).length) xs_26 ys_26)).length) (k4_32)]) tI25 (holds_blk (List.Mem.tail _ (List.Mem.tail _ (List.Mem.tail _ (List.Mem.tail _ (List.Mem.head _)))))) rfl some_lit rfl rfl) rfl rfl rfl ?_
              refine wl_go rfl rfl ?_
              refine wl_v (ov_loadAgg (vs := [.int .i64 (relN xs_26.length (relV (fun es => compl xs_26.length es (prs xs_26.length).length) xs_26 ys_26)), .slice A4_39 ((rel2 (relV (fun es => compl xs_26.length es (prs xs_26.length).length) xs_26 ys_26)).length) (k4_39)]) tI25 (holds_blk (List.Mem.head _)) rfl some_lit rfl rfl) rfl rfl rfl ?_
              refine wl_go rfl rfl ?_
              refine wl_r (or_call (fv := []) (vs := [.agg #[.int .i64 (relN xs_26.length (relV (fun es => compl xs_26.length es (prs xs_26.length).length) xs_26 ys_26)), .slice A4_32 ((rel2 (relV (fun es => compl xs_26.length es (prs xs_26.length).length) xs_26 ys_26)).length) (k4_32)], .agg #[.int .i64 (relN xs_26.length (relV (fun es => compl xs_26.length es (prs xs_26.length).length) xs_26 ys_26)), .slice A4_39 ((rel2 (relV (fun es => compl xs_26.length es (prs xs_26.length).length) xs_26 ys_26)).length) (k4_39)]]) (cs := []) en28 rfl rfl (call_v (fun w hw => equalGraph_c w (relN xs_26.length (relV (fun es => compl xs_26.length es (prs xs_26.length).length) xs_26 ys_26)) A4_32 ((rel2 (relV (fun es => compl xs_26.length es (prs xs_26.length).length) xs_26 ys_26)).length) k4_32 (rel2 (relV (fun es => compl xs_26.length es (prs xs_26.length).length) xs_26 ys_26)) (relN xs_26.length (relV (fun es => compl xs_26.length es (prs xs_26.length).length) xs_26 ys_26)) A4_39 ((rel2 (relV (fun es => compl xs_26.length es (prs xs_26.length).length) xs_26 ys_26)).length) k4_39 (rel2 (relV (fun es => compl xs_26.length es (prs xs_26.length).length) xs_26 ys_26)) ((holds_row (List.Mem.tail _ (List.Mem.tail _ (List.Mem.tail _ (List.Mem.tail _ (List.Mem.tail _ (List.Mem.tail _ (List.Mem.tail _ (List.Mem.head _))))))))) w hw) rfl h_32.2 ((holds_row (List.Mem.tail _ (List.Mem.tail _ (List.Mem.tail _ (List.Mem.head _))))) w hw) rfl h_39.2 (by omega)))) rfl rfl (kt_if rfl (fun c86 => ?_) (fun c86 => ?_))
              ·
                refine wl_v (ov_pick_t rfl rfl) rfl rfl rfl ?_
                refine wl_v (ov_move rfl) rfl rfl rfl ?_
                refine wl_go rfl rfl ?_
                refine wl_v (ov_move rfl) rfl rfl rfl ?_
                refine wl_go rfl rfl ?_
                refine wl_v (ov_move rfl) rfl rfl rfl ?_
                refine wl_go rfl rfl ?_
                refine wl_if (OpV.dec (ov_eqlb uI4 rfl rfl)) rfl rfl rfl (fun c91 => ?_) (fun c91 => ?_)
                ·
                  refine wl_v (ov_pick_t rfl rfl) rfl rfl rfl ?_
                  refine wl_v (ov_assign rfl) rfl rfl rfl ?_
                  refine wl_nil ?_
                  refine ce_then ?_
                  refine cw_ret ?_
                  refine ce_then_ret ?_
                  refine ce_results (v := .bool true) (res1 rfl (rv_t rfl)) (fun w' hw => ?_)
                  exact ⟨rfl, (Keep.nil.ss hw).to_new⟩
                ·
                  simp at c91
              ·
                exact absurd ⟨rfl, rfl⟩ c86
            ·
              exact absurd ⟨rfl, rfl⟩ c82
      ·
        exact absurd ⟨rfl, rfl⟩ c50
    ·
      exact absurd ⟨rfl, rfl⟩ c45
end Go.Proofs.Ytfjgfocjogfodaa.LFnPackDegrees
