/- Walks of functions of the given program: each returns what its Lean function says and leaves the memory that was there as it was. Conditions: those of each theorem. -/
import Derived.Test.YtlgkooeflgmcaabSz
import Derived.Test.YtlgkooeflgmcaabProg
import Derived.Test.YtlgkooeflgmcaabPl
import Derived.Test.YtlgkooeflgmcaabPo
import Derived.Test.YtlgkooeflgmcaabPd
import Derived.Test.YtlgkooeflgmcaabPe
import Derived.Test.YtlgkooeflgmcaabPh
import Derived.Test.YtlgkooeflgmcaabPm
import Derived.Test.YtlgkooeflgmcaabPc
import Derived.Test.YtlgkooeflgmcaabPs
import Derived.Test.YtlgkooeflgmcaabPt
import Derived.Test.YtlgkooeflgmcaabT
import Derived.Test.YtlgkooeflgmcaabW2
import Derived.Test.YtlgkooeflgmcaabW5
import Derived.Test.YtlgkooeflgmcaabW22
import Derived.KernelRfl
namespace Go.Proofs.Ytlgkooeflgmcaab.LFnExactPackDegrees
open Go.Sx Go.RowKit Go.Proofs.Ytlgkooeflgmcaab.T Go.Proofs.Ytlgkooeflgmcaab.W2 Go.Proofs.Ytlgkooeflgmcaab.W5 Go.Proofs.Ytlgkooeflgmcaab.W22
open Go.Plain
set_option linter.unusedVariables false
set_option maxRecDepth 100000 in
theorem FnExactPackDegrees_c (w : World) (A : Option Addr) (n : Nat) (c : Nat) (xs : List (Int)) (A2 : Option Addr) (n2 : Nat) (c2 : Nat) (ys : List (Int)) (hA : At w A (cells fI xs)) (eA : xs.length = n) (lA : n ≤ c) (hA2 : At w A2 (cells fI ys)) (eA2 : ys.length = n2) (lA2 : n2 ≤ c2) : Calls Try.prog 6 #[.slice A (n) (c), .slice A2 (n2) (c2)] w (Ret fun rv w' => rv = .bool true ∧ New w w' []) := by
  have oA := hA.atB
  subst eA
  have oA2 := hA2.atB
  subst eA2
  have hll := relV_len (of := fun es => compl xs.length es (prs xs.length).length) (xs := xs) (ys := ys) (fun g h => gr_of_sublist (compl_sub _ _ _))
  refine fn_enter (args := [.slice A (xs.length) (c), .slice A2 (ys.length) (c2)]) Try.func6 rfl Try.ntmps6 rfl (SS.start w) ?_
  refine cw_seq ?_
  refine cw_region ?_
  refine wl_v (ov_assign rfl) rfl rfl rfl ?_
  refine wl_nil ?_
  refine ce_then ?_
  refine cw_seq ?_
  refine cw_seq ?_
  refine cw_region ?_
  refine wl_v (ov_move rfl) rfl rfl rfl ?_
  refine wl_v (ov_len (sliceI_spec sI25) rfl) rfl rfl rfl ?_
  refine wl_if (ov_gtr rfl rfl) rfl rfl rfl (fun c21 => ?_) (fun c21 => ?_)
  ·
    refine wl_nil ?_
    refine ce_then ?_
    refine cw_true rfl ?_
    refine cw_seq ?_
    refine cw_region ?_
    refine wl_v (ov_assign rfl) rfl rfl rfl ?_
    refine wl_nil ?_
    refine ce_then ?_
    refine cw_ret ?_
    refine ce_then_ret ?_
    refine ce_results (v := .bool true) (res1 rfl (rv_t rfl)) (fun w' hw => ?_)
    exact ⟨rfl, (Keep.nil.ss hw).to_new⟩
  ·
    refine wl_nil ?_
    refine ce_then ?_
    refine cw_false rfl ?_
    refine cw_skip ?_
    refine ce_then ?_
    refine cw_seq ?_
    refine cw_seq ?_
    refine cw_region ?_
    refine wl_v (ov_move rfl) rfl rfl rfl ?_
    refine wl_v (ov_len (sliceI_spec sI25) rfl) rfl rfl rfl ?_
    refine wl_if (ov_gtr rfl rfl) rfl rfl rfl (fun c24 => ?_) (fun c24 => ?_)
    ·
      refine wl_nil ?_
      refine ce_then ?_
      refine cw_true rfl ?_
      refine cw_seq ?_
      refine cw_region ?_
      refine wl_v (ov_assign rfl) rfl rfl rfl ?_
      refine wl_nil ?_
      refine ce_then ?_
      refine cw_ret ?_
      refine ce_then_ret ?_
      refine ce_results (v := .bool true) (res1 rfl (rv_t rfl)) (fun w' hw => ?_)
      exact ⟨rfl, (Keep.nil.ss hw).to_new⟩
    ·
      refine wl_nil ?_
      refine ce_then ?_
      refine cw_false rfl ?_
      refine cw_skip ?_
      refine ce_then ?_
      refine cw_seq ?_
      refine cw_region ?_
      refine wl_v (ov_move rfl) rfl rfl rfl ?_
      refine wl_r (or_call (fv := []) (vs := [.slice A (xs.length) (c)]) (cs := []) en12 rfl rfl (call_x1 (fun w hw => toIntS_c w A xs.length c xs ((holds_old oA) w hw) rfl lA (by first | assumption | omega | (simp; omega))))) rfl rfl (kt1p rfl (fun g_27 h_27 => ?_))
      refine wl_v (ov_move rfl) rfl rfl rfl ?_
      refine wl_r (or_call (fv := []) (vs := [.slice A2 (ys.length) (c2)]) (cs := []) en12 rfl rfl (call_x1 (fun w hw => toIntS_c w A2 ys.length c2 ys ((holds_old oA2) w hw) rfl lA2 (by first | assumption | omega | (simp; omega))))) rfl rfl (kt1p rfl (fun g_29 h_29 => ?_))
      refine wl_r (or_call (fv := []) (vs := [.slice (some ⟨g_27, 0, none⟩) (xs.length) (xs.length), .slice (some ⟨g_29, 0, none⟩) (ys.length) (ys.length)]) (cs := []) en24 rfl rfl (call_x6 (fun w hw => PackS_c w (some ⟨g_27, 0, none⟩) xs.length xs.length xs (some ⟨g_29, 0, none⟩) ys.length ys.length ys ((holds_row (List.Mem.tail _ (List.Mem.head _))) w hw) rfl (Nat.le_refl _) ((holds_row (List.Mem.head _)) w hw) rfl (Nat.le_refl _) (by first | assumption | omega | (simp; omega))))) rfl rfl (kt6p rfl (fun A3_30 k3_30 c3_30 A4_30 k4_30 c4_30 h_30 => ?_))
      refine wl_v (ov_move rfl) rfl rfl rfl ?_
      refine wl_v (ov_extract rfl rfl) rfl rfl rfl ?_
      refine wl_v (ov_extract rfl rfl) rfl rfl rfl ?_
      refine wl_v (ov_extract rfl rfl) rfl rfl rfl ?_
      refine wl_r (or_alloc tI30 rfl) rfl rfl (kt1 rfl (fun g5 => ?_))
      refine wl_r (or_alloc tI30 rfl) rfl rfl (kt1 rfl (fun g6 => ?_))
      refine wl_r0 (or_store_blk (vs := [.int .i64 (relN xs.length (relV (fun es => compl xs.length es (prs xs.length).length) xs ys)), .slice A3_30 ((rel1 (relV (fun es => compl xs.length es (prs xs.length).length) xs ys)).length) (k3_30)]) (cs' := [.int .i64 (relN xs.length (relV (fun es => compl xs.length es (prs xs.length).length) xs ys)), .slice A3_30 ((rel1 (relV (fun es => compl xs.length es (prs xs.length).length) xs ys)).length) (k3_30)]) (.tail .head) tI30 rfl rfl rfl rfl (Nat.le_of_ble_eq_true rfl) rfl) rfl rfl (kn0 ?_)
      refine wl_r0 (or_store_blk (vs := [.int .i64 (relN xs.length (relV (fun es => compl xs.length es (prs xs.length).length) xs ys)), .slice A4_30 ((rel2 (relV (fun es => compl xs.length es (prs xs.length).length) xs ys)).length) (k4_30)]) (cs' := [.int .i64 (relN xs.length (relV (fun es => compl xs.length es (prs xs.length).length) xs ys)), .slice A4_30 ((rel2 (relV (fun es => compl xs.length es (prs xs.length).length) xs ys)).length) (k4_30)]) (.tail .head) tI30 rfl rfl rfl rfl (Nat.le_of_ble_eq_true rfl) rfl) rfl rfl (kn0 ?_)
      refine wl_v (ov_assign rfl) rfl rfl rfl ?_
      refine wl_nil ?_
      refine ce_then ?_
      refine cw_seq ?_
      refine cw_region ?_
      refine wl_v (ov_move rfl) rfl rfl rfl ?_
      refine wl_r (or_call (fv := []) (vs := [.slice A (xs.length) (c)]) (cs := []) en12 rfl rfl (call_x1 (fun w hw => toIntS_c w A xs.length c xs ((holds_old oA) w hw) rfl lA (by first | assumption | omega | (simp; omega))))) rfl rfl (kt1p rfl (fun g_35 h_35 => ?_))
      refine wl_v (ov_assign rfl) rfl rfl rfl ?_
      refine wl_nil ?_
      refine ce_then ?_
      refine cw_seq ?_
      refine cw_region ?_
      refine wl_v (ov_move rfl) rfl rfl rfl ?_
      refine wl_r (or_call (fv := []) (vs := [.slice A2 (ys.length) (c2)]) (cs := []) en12 rfl rfl (call_x1 (fun w hw => toIntS_c w A2 ys.length c2 ys ((holds_old oA2) w hw) rfl lA2 (by first | assumption | omega | (simp; omega))))) rfl rfl (kt1p rfl (fun g_37 h_37 => ?_))
      refine wl_v (ov_assign rfl) rfl rfl rfl ?_
      refine wl_nil ?_
      refine ce_then ?_
      refine cw_seq ?_
      refine cw_region ?_
      refine wl_v (ov_move rfl) rfl rfl rfl ?_
      refine wl_v (ov_move rfl) rfl rfl rfl ?_
      refine wl_r (or_call (fv := []) (vs := [.slice (some ⟨g_35, 0, none⟩) (xs.length) (xs.length), .slice (some ⟨g_37, 0, none⟩) (ys.length) (ys.length)]) (cs := []) en25 rfl rfl (call_x6 (fun w hw => PackI_c w (some ⟨g_35, 0, none⟩) xs.length xs.length xs (some ⟨g_37, 0, none⟩) ys.length ys.length ys ((holds_row (List.Mem.tail _ (List.Mem.head _))) w hw) rfl (Nat.le_refl _) ((holds_row (List.Mem.head _)) w hw) rfl (Nat.le_refl _) (by first | assumption | omega | (simp; omega))))) rfl rfl (kt6p rfl (fun A3_41 k3_41 c3_41 A4_41 k4_41 c4_41 h_41 => ?_))
      refine wl_v (ov_move rfl) rfl rfl rfl ?_
      refine wl_v (ov_extract rfl rfl) rfl rfl rfl ?_
      refine wl_v (ov_extract rfl rfl) rfl rfl rfl ?_
      refine wl_v (ov_extract rfl rfl) rfl rfl rfl ?_
      refine wl_r (or_alloc tI30 rfl) rfl rfl (kt1 rfl (fun g10 => ?_))
      refine wl_r (or_alloc tI30 rfl) rfl rfl (kt1 rfl (fun g11 => ?_))
      refine wl_r0 (or_store_blk (vs := [.int .i64 (relN xs.length (relV (fun es => compl xs.length es (prs xs.length).length) xs ys)), .slice A3_41 ((rel1 (relV (fun es => compl xs.length es (prs xs.length).length) xs ys)).length) (k3_41)]) (cs' := [.int .i64 (relN xs.length (relV (fun es => compl xs.length es (prs xs.length).length) xs ys)), .slice A3_41 ((rel1 (relV (fun es => compl xs.length es (prs xs.length).length) xs ys)).length) (k3_41)]) (.tail .head) tI30 rfl rfl rfl rfl (Nat.le_of_ble_eq_true rfl) rfl) rfl rfl (kn0 ?_)
      refine wl_r0 (or_store_blk (vs := [.int .i64 (relN xs.length (relV (fun es => compl xs.length es (prs xs.length).length) xs ys)), .slice A4_41 ((rel2 (relV (fun es => compl xs.length es (prs xs.length).length) xs ys)).length) (k4_41)]) (cs' := [.int .i64 (relN xs.length (relV (fun es => compl xs.length es (prs xs.length).length) xs ys)), .slice A4_41 ((rel2 (relV (fun es => compl xs.length es (prs xs.length).length) xs ys)).length) (k4_41)]) (.tail .head) tI30 rfl rfl rfl rfl (Nat.le_of_ble_eq_true rfl) rfl) rfl rfl (kn0 ?_)
      refine wl_v (ov_assign rfl) rfl rfl rfl ?_
      refine wl_nil ?_
      refine ce_then ?_
      refine cw_seq ?_
      refine cw_seq ?_
      refine cw_region ?_
      refine wl_v (ov_loadAgg (vs := [.int .i64 (relN xs.length (relV (fun es => compl xs.length es (prs xs.length).length) xs ys)), .slice A3_41 ((rel1 (relV (fun es => compl xs.length es (prs xs.length).length) xs ys)).length) (k3_41)]) tI30 (holds_blk (List.Mem.tail _ (List.Mem.head _))) rfl some_lit rfl rfl) rfl rfl rfl ?_
      refine wl_v (ov_loadAgg (vs := [.int .i64 (relN xs.length (relV (fun es => compl xs.length es (prs xs.length).length) xs ys)), .slice A3_30 ((rel1 (relV (fun es => compl xs.length es (prs xs.length).length) xs ys)).length) (k3_30)]) tI30 (holds_blk (List.Mem.tail _ (List.Mem.tail _ (List.Mem.tail _ (List.Mem.tail _ (List.Mem.tail _ (List.Mem.tail _ (List.Mem.tail _ (List.Mem.head _))))))))) rfl some_lit rfl rfl) rfl rfl rfl ?_
      refine wl_r (or_call (fv := []) (vs := [.agg #[.int .i64 (relN xs.length (relV (fun es => compl xs.length es (prs xs.length).length) xs ys)), .slice A3_41 ((rel1 (relV (fun es => compl xs.length es (prs xs.length).length) xs ys)).length) (k3_41)], .agg #[.int .i64 (relN xs.length (relV (fun es => compl xs.length es (prs xs.length).length) xs ys)), .slice A3_30 ((rel1 (relV (fun es => compl xs.length es (prs xs.length).length) xs ys)).length) (k3_30)]]) (cs := []) en14 rfl rfl (call_v (fun w hw => eqGraph_c w (relN xs.length (relV (fun es => compl xs.length es (prs xs.length).length) xs ys)) A3_41 ((rel1 (relV (fun es => compl xs.length es (prs xs.length).length) xs ys)).length) k3_41 (rel1 (relV (fun es => compl xs.length es (prs xs.length).length) xs ys)) (relN xs.length (relV (fun es => compl xs.length es (prs xs.length).length) xs ys)) A3_30 ((rel1 (relV (fun es => compl xs.length es (prs xs.length).length) xs ys)).length) k3_30 (rel1 (relV (fun es => compl xs.length es (prs xs.length).length) xs ys)) ((holds_row (List.Mem.tail _ (List.Mem.tail _ (List.Mem.head _)))) w hw) rfl h_41.1 ((holds_row (List.Mem.tail _ (List.Mem.tail _ (List.Mem.tail _ (List.Mem.tail _ (List.Mem.tail _ (List.Mem.tail _ (List.Mem.tail _ (List.Mem.tail _ (List.Mem.head _)))))))))) w hw) rfl h_30.1 (by first | assumption | omega | (simp; omega))))) rfl rfl (kt_if rfl (fun c47 => ?_) (fun c47 => ?_))
      ·
        refine wl_v (ov_not rfl) rfl rfl rfl ?_
        refine wl_v (ov_move rfl) rfl rfl rfl ?_
        refine wl_go rfl rfl ?_
        refine wl_v (ov_loadAgg (vs := [.int .i64 (relN xs.length (relV (fun es => compl xs.length es (prs xs.length).length) xs ys)), .slice A4_41 ((rel2 (relV (fun es => compl xs.length es (prs xs.length).length) xs ys)).length) (k4_41)]) tI30 (holds_blk (List.Mem.head _)) rfl some_lit rfl rfl) rfl rfl rfl ?_
        refine wl_go rfl rfl ?_
        refine wl_v (ov_loadAgg (vs := [.int .i64 (relN xs.length (relV (fun es => compl xs.length es (prs xs.length).length) xs ys)), .slice A4_30 ((rel2 (relV (fun es => compl xs.length es (prs xs.length).length) xs ys)).length) (k4_30)]) tI30 (holds_blk (List.Mem.tail _ (List.Mem.tail _ (List.Mem.tail _ (List.Mem.tail _ (List.Mem.tail _ (List.Mem.tail _ (List.Mem.head _)))))))) rfl some_lit rfl rfl) rfl rfl rfl ?_
        refine wl_go rfl rfl ?_
        refine wl_r (or_call (fv := []) (vs := [.agg #[.int .i64 (relN xs.length (relV (fun es => compl xs.length es (prs xs.length).length) xs ys)), .slice A4_41 ((rel2 (relV (fun es => compl xs.length es (prs xs.length).length) xs ys)).length) (k4_41)], .agg #[.int .i64 (relN xs.length (relV (fun es => compl xs.length es (prs xs.length).length) xs ys)), .slice A4_30 ((rel2 (relV (fun es => compl xs.length es (prs xs.length).length) xs ys)).length) (k4_30)]]) (cs := []) en14 rfl rfl (call_v (fun w hw => eqGraph_c w (relN xs.length (relV (fun es => compl xs.length es (prs xs.length).length) xs ys)) A4_41 ((rel2 (relV (fun es => compl xs.length es (prs xs.length).length) xs ys)).length) k4_41 (rel2 (relV (fun es => compl xs.length es (prs xs.length).length) xs ys)) (relN xs.length (relV (fun es => compl xs.length es (prs xs.length).length) xs ys)) A4_30 ((rel2 (relV (fun es => compl xs.length es (prs xs.length).length) xs ys)).length) k4_30 (rel2 (relV (fun es => compl xs.length es (prs xs.length).length) xs ys)) ((holds_row (List.Mem.tail _ (List.Mem.tail _ (List.Mem.tail _ (List.Mem.head _))))) w hw) rfl h_41.2 ((holds_row (List.Mem.tail _ (List.Mem.tail _ (List.Mem.tail _ (List.Mem.tail _ (List.Mem.tail _ (List.Mem.tail _ (List.Mem.tail _ (List.Mem.tail _ (List.Mem.tail _ (List.Mem.head _))))))))))) w hw) rfl h_30.2 (by first | assumption | omega | (simp; omega))))) rfl rfl (kt_if rfl (fun c52 => ?_) (fun c52 => ?_))
        ·
          refine wl_go rfl rfl ?_
          refine wl_v (ov_not rfl) rfl rfl rfl ?_
          refine wl_v (ov_pick_f rfl rfl) rfl rfl rfl ?_
          refine wl_v (ov_move rfl) rfl rfl rfl ?_
          refine wl_go rfl rfl ?_
          refine wl_v (ov_move rfl) rfl rfl rfl ?_
          refine wl_go rfl rfl ?_
          refine wl_v (ov_move rfl) rfl rfl rfl ?_
          refine wl_go rfl rfl ?_
          refine wl_if (OpV.dec (ov_neqb uI4 rfl rfl)) rfl rfl rfl (fun c58 => ?_) (fun c58 => ?_)
          ·
            first | (exfalso; omega) | exact absurd rfl c58 | exact absurd (by simp) c58 | (exfalso; simp at c58; omega) | exact absurd ⟨rfl, rfl⟩ c58 | (simp at c58)
          ·
            refine wl_v (ov_pick_f rfl rfl) rfl rfl rfl ?_
            refine wl_nil ?_
            refine ce_then ?_
            refine cw_false rfl ?_
            refine cw_skip ?_
            refine ce_then ?_
            refine cw_seq ?_
            refine cw_seq ?_
            refine cw_region ?_
            refine wl_v (ov_move rfl) rfl rfl rfl ?_
            refine wl_v (ov_move rfl) rfl rfl rfl ?_
            refine wl_r (or_call (fv := []) (vs := [.slice A (xs.length) (c)]) (cs := []) en12 rfl rfl (call_x1 (fun w hw => toIntS_c w A xs.length c xs ((holds_old oA) w hw) rfl lA (by first | assumption | omega | (simp; omega))))) rfl rfl (kt1p rfl (fun g_62 h_62 => ?_))
            refine wl_r (or_call (fv := []) (vs := [.slice (some ⟨g_35, 0, none⟩) (xs.length) (xs.length), .slice (some ⟨g_62, 0, none⟩) (xs.length) (xs.length)]) (cs := []) en15 rfl rfl (call_v (fun w hw => eqIntS_c w (some ⟨g_35, 0, none⟩) xs.length xs.length xs (some ⟨g_62, 0, none⟩) xs.length xs.length xs ((holds_row (List.Mem.tail _ (List.Mem.tail _ (List.Mem.tail _ (List.Mem.tail _ (List.Mem.tail _ (List.Mem.tail _ (List.Mem.head _)))))))) w hw) rfl (Nat.le_refl _) ((holds_row (List.Mem.head _)) w hw) rfl (Nat.le_refl _) (by first | assumption | omega | (simp; omega))))) rfl rfl (kt_if rfl (fun c63 => ?_) (fun c63 => ?_))
            ·
              refine wl_v (ov_not rfl) rfl rfl rfl ?_
              refine wl_nil ?_
              refine ce_then ?_
              refine cw_false rfl ?_
              refine cw_skip ?_
              refine ce_then ?_
              refine cw_seq ?_
              refine cw_seq ?_
              refine cw_region ?_
              refine wl_v (ov_move rfl) rfl rfl rfl ?_
              refine wl_v (ov_move rfl) rfl rfl rfl ?_
              refine wl_r (or_call (fv := []) (vs := [.slice A2 (ys.length) (c2)]) (cs := []) en12 rfl rfl (call_x1 (fun w hw => toIntS_c w A2 ys.length c2 ys ((holds_old oA2) w hw) rfl lA2 (by first | assumption | omega | (simp; omega))))) rfl rfl (kt1p rfl (fun g_67 h_67 => ?_))
              refine wl_r (or_call (fv := []) (vs := [.slice (some ⟨g_37, 0, none⟩) (ys.length) (ys.length), .slice (some ⟨g_67, 0, none⟩) (ys.length) (ys.length)]) (cs := []) en15 rfl rfl (call_v (fun w hw => eqIntS_c w (some ⟨g_37, 0, none⟩) ys.length ys.length ys (some ⟨g_67, 0, none⟩) ys.length ys.length ys ((holds_row (List.Mem.tail _ (List.Mem.tail _ (List.Mem.tail _ (List.Mem.tail _ (List.Mem.tail _ (List.Mem.tail _ (List.Mem.head _)))))))) w hw) rfl (Nat.le_refl _) ((holds_row (List.Mem.head _)) w hw) rfl (Nat.le_refl _) (by first | assumption | omega | (simp; omega))))) rfl rfl (kt_if rfl (fun c68 => ?_) (fun c68 => ?_))
              ·
                refine wl_v (ov_not rfl) rfl rfl rfl ?_
                refine wl_nil ?_
                refine ce_then ?_
                refine cw_false rfl ?_
                refine cw_skip ?_
                refine ce_then ?_
                refine cw_seq ?_
                refine cw_region ?_
                refine wl_v (ov_assign rfl) rfl rfl rfl ?_
                refine wl_nil ?_
                refine ce_then ?_
                refine cw_seq ?_
                refine cw_region ?_
                refine wl_v (ov_move rfl) rfl rfl rfl ?_
                refine wl_v (ov_move rfl) rfl rfl rfl ?_
                refine wl_r (or_call (fv := []) (vs := [.slice (some ⟨g_35, 0, none⟩) (xs.length) (xs.length), .int .i64 (1)]) (cs := []) en19 rfl rfl (call_m (.tail (.tail (.tail (.tail (.tail (.tail (.tail .head))))))) (fun w hw => markIntS_c w _ _ _ (some ⟨g_35, 0, none⟩) xs.length xs.length xs.length xs 1 rfl (Nat.le_refl _) (by first | assumption | omega | (simp; omega)) (by first | assumption | omega | (simp; omega)) hw))) rfl rfl (kt0 rfl ?_)
                refine wl_v (ov_assign rfl) rfl rfl rfl ?_
                refine wl_nil ?_
                refine ce_then ?_
                refine cw_seq ?_
                refine cw_region ?_
                refine wl_v (ov_move rfl) rfl rfl rfl ?_
                refine wl_v (ov_move rfl) rfl rfl rfl ?_
                refine wl_r (or_call (fv := []) (vs := [.slice (some ⟨g_37, 0, none⟩) (ys.length) (ys.length), .int .i64 (1 + xs.length)]) (cs := []) en19 rfl rfl (call_m (.tail (.tail (.tail (.tail (.tail (.tail (.tail .head))))))) (fun w hw => markIntS_c w _ _ _ (some ⟨g_37, 0, none⟩) ys.length ys.length ys.length ys (1 + xs.length) rfl (Nat.le_refl _) (by first | assumption | omega | (simp; omega)) (by first | assumption | omega | (simp; omega)) hw))) rfl rfl (kt0 rfl ?_)
                refine wl_v (ov_assign rfl) rfl rfl rfl ?_
                refine wl_nil ?_
                refine ce_then ?_
                refine cw_seq ?_
                refine cw_seq ?_
                refine cw_region ?_
                refine wl_v (ov_move rfl) rfl rfl rfl ?_
                refine wl_if (ov_lss rfl rfl) rfl rfl rfl (fun c77 => ?_) (fun c77 => ?_)
                ·
                  first | (exfalso; omega) | exact absurd rfl c77 | exact absurd (by simp) c77 | (exfalso; simp at c77; omega) | exact absurd ⟨rfl, rfl⟩ c77 | (simp at c77)
                ·
                  refine wl_v (ov_move rfl) rfl rfl rfl ?_
                  refine wl_go rfl rfl ?_
                  refine wl_v (ov_loadAgg (vs := [.int .i64 (relN xs.length (relV (fun es => compl xs.length es (prs xs.length).length) xs ys)), .slice A3_41 ((rel1 (relV (fun es => compl xs.length es (prs xs.length).length) xs ys)).length) (k3_41)]) tI30 (holds_blk (List.Mem.tail _ (List.Mem.tail _ (List.Mem.tail _ (List.Mem.tail _ (List.Mem.tail _ (List.Mem.head _))))))) rfl some_lit rfl rfl) rfl rfl rfl ?_
                  refine wl_go rfl rfl ?_
                  refine wl_v (ov_loadAgg (vs := [.int .i64 (relN xs.length (relV (fun es => compl xs.length es (prs xs.length).length) xs ys)), .slice A3_30 ((rel1 (relV (fun es => compl xs.length es (prs xs.length).length) xs ys)).length) (k3_30)]) tI30 (holds_blk (List.Mem.tail _ (List.Mem.tail _ (List.Mem.tail _ (List.Mem.tail _ (List.Mem.tail _ (List.Mem.tail _ (List.Mem.tail _ (List.Mem.tail _ (List.Mem.tail _ (List.Mem.head _))))))))))) rfl some_lit rfl rfl) rfl rfl rfl ?_
                  refine wl_go rfl rfl ?_
                  refine wl_r (or_call (fv := []) (vs := [.agg #[.int .i64 (relN xs.length (relV (fun es => compl xs.length es (prs xs.length).length) xs ys)), .slice A3_41 ((rel1 (relV (fun es => compl xs.length es (prs xs.length).length) xs ys)).length) (k3_41)], .agg #[.int .i64 (relN xs.length (relV (fun es => compl xs.length es (prs xs.length).length) xs ys)), .slice A3_30 ((rel1 (relV (fun es => compl xs.length es (prs xs.length).length) xs ys)).length) (k3_30)]]) (cs := []) en14 rfl rfl (call_v (fun w hw => eqGraph_c w (relN xs.length (relV (fun es => compl xs.length es (prs xs.length).length) xs ys)) A3_41 ((rel1 (relV (fun es => compl xs.length es (prs xs.length).length) xs ys)).length) k3_41 (rel1 (relV (fun es => compl xs.length es (prs xs.length).length) xs ys)) (relN xs.length (relV (fun es => compl xs.length es (prs xs.length).length) xs ys)) A3_30 ((rel1 (relV (fun es => compl xs.length es (prs xs.length).length) xs ys)).length) k3_30 (rel1 (relV (fun es => compl xs.length es (prs xs.length).length) xs ys)) ((holds_row (List.Mem.tail _ (List.Mem.tail _ (List.Mem.tail _ (List.Mem.tail _ (List.Mem.tail _ (List.Mem.tail _ (List.Mem.head _)))))))) w hw) rfl h_41.1 ((holds_row (List.Mem.tail _ (List.Mem.tail _ (List.Mem.tail _ (List.Mem.tail _ (List.Mem.tail _ (List.Mem.tail _ (List.Mem.tail _ (List.Mem.tail _ (List.Mem.tail _ (List.Mem.tail _ (List.Mem.head _)))))))))))) w hw) rfl h_30.1 (by first | assumption | omega | (simp; omega))))) rfl rfl (kt_if rfl (fun c81 => ?_) (fun c81 => ?_))
                  ·
                    refine wl_go rfl rfl ?_
                    refine wl_v (ov_not rfl) rfl rfl rfl ?_
                    refine wl_v (ov_pick_f rfl rfl) rfl rfl rfl ?_
                    refine wl_v (ov_move rfl) rfl rfl rfl ?_
                    refine wl_go rfl rfl ?_
                    refine wl_v (ov_loadAgg (vs := [.int .i64 (relN xs.length (relV (fun es => compl xs.length es (prs xs.length).length) xs ys)), .slice A4_41 ((rel2 (relV (fun es => compl xs.length es (prs xs.length).length) xs ys)).length) (k4_41)]) tI30 (holds_blk (List.Mem.tail _ (List.Mem.tail _ (List.Mem.tail _ (List.Mem.tail _ (List.Mem.head _)))))) rfl some_lit rfl rfl) rfl rfl rfl ?_
                    refine wl_go rfl rfl ?_
                    refine wl_v (ov_loadAgg (vs := [.int .i64 (relN xs.length (relV (fun es => compl xs.length es (prs xs.length).length) xs ys)), .slice A4_30 ((rel2 (relV (fun es => compl xs.length es (prs xs.length).length) xs ys)).length) (k4_30)]) tI30 (holds_blk (List.Mem.tail _ (List.Mem.tail _ (List.Mem.tail _ (List.Mem.tail _ (List.Mem.tail _ (List.Mem.tail _ (List.Mem.tail _ (List.Mem.tail _ (List.Mem.head _)))))))))) rfl some_lit rfl rfl) rfl rfl rfl ?_
                    refine wl_go rfl rfl ?_
                    refine wl_r (or_call (fv := []) (vs := [.agg #[.int .i64 (relN xs.length (relV (fun es => compl xs.length es (prs xs.length).length) xs ys)), .slice A4_41 ((rel2 (relV (fun es => compl xs.length es (prs xs.length).length) xs ys)).length) (k4_41)], .agg #[.int .i64 (relN xs.length (relV (fun es => compl xs.length es (prs xs.length).length) xs ys)), .slice A4_30 ((rel2 (relV (fun es => compl xs.length es (prs xs.length).length) xs ys)).length) (k4_30)]]) (cs := []) en14 rfl rfl (call_v (fun w hw => eqGraph_c w (relN xs.length (relV (fun es => compl xs.length es (prs xs.length).length) xs ys)) A4_41 ((rel2 (relV (fun es => compl xs.length es (prs xs.length).length) xs ys)).length) k4_41 (rel2 (relV (fun es => compl xs.length es (prs xs.length).length) xs ys)) (relN xs.length (relV (fun es => compl xs.length es (prs xs.length).length) xs ys)) A4_30 ((rel2 (relV (fun es => compl xs.length es (prs xs.length).length) xs ys)).length) k4_30 (rel2 (relV (fun es => compl xs.length es (prs xs.length).length) xs ys)) ((holds_row (List.Mem.tail _ (List.Mem.tail _ (List.Mem.tail _ (List.Mem.tail _ (List.Mem.tail _ (List.Mem.tail _ (List.Mem.tail _ (List.Mem.head _))))))))) w hw) rfl h_41.2 ((holds_row (List.Mem.tail _ (List.Mem.tail _ (List.Mem.tail _ (List.Mem.tail _ (List.Mem.tail _ (List.Mem.tail _ (List.Mem.tail _ (List.Mem.tail _ (List.Mem.tail _ (List.Mem.tail _ (List.Mem.tail _ (List.Mem.head _))))))))))))) w hw) rfl h_30.2 (by first | assumption | omega | (simp; omega))))) rfl rfl (kt_if rfl (fun c87 => ?_) (fun c87 => ?_))
                    ·
                      refine wl_go rfl rfl ?_
                      refine wl_v (ov_not rfl) rfl rfl rfl ?_
                      refine wl_v (ov_pick_f rfl rfl) rfl rfl rfl ?_
                      refine wl_v (ov_move rfl) rfl rfl rfl ?_
                      refine wl_go rfl rfl ?_
                      refine wl_v (ov_move rfl) rfl rfl rfl ?_
                      refine wl_go rfl rfl ?_
                      refine wl_v (ov_move rfl) rfl rfl rfl ?_
                      refine wl_go rfl rfl ?_
                      refine wl_if (OpV.dec (ov_neqb uI4 rfl rfl)) rfl rfl rfl (fun c93 => ?_) (fun c93 => ?_)
                      ·
                        first | (exfalso; omega) | exact absurd rfl c93 | exact absurd (by simp) c93 | (exfalso; simp at c93; omega) | exact absurd ⟨rfl, rfl⟩ c93 | (simp at c93)
                      ·
                        refine wl_v (ov_pick_f rfl rfl) rfl rfl rfl ?_
                        refine wl_nil ?_
                        refine ce_then ?_
                        refine cw_false rfl ?_
                        refine cw_skip ?_
                        refine ce_then ?_
                        refine cw_seq ?_
                        refine cw_region ?_
                        refine wl_v (ov_assign rfl) rfl rfl rfl ?_
                        refine wl_nil ?_
                        refine ce_then ?_
                        refine cw_seq ?_
                        refine cw_region ?_
                        refine wl_v (ov_loadAgg (vs := [.int .i64 (relN xs.length (relV (fun es => compl xs.length es (prs xs.length).length) xs ys)), .slice A3_41 ((rel1 (relV (fun es => compl xs.length es (prs xs.length).length) xs ys)).length) (k3_41)]) tI30 (holds_blk (List.Mem.tail _ (List.Mem.tail _ (List.Mem.tail _ (List.Mem.tail _ (List.Mem.tail _ (List.Mem.head _))))))) rfl some_lit rfl rfl) rfl rfl rfl ?_
                        refine wl_v (ov_move rfl) rfl rfl rfl ?_
                        refine wl_r (or_call (fv := []) (vs := [.agg #[.int .i64 (relN xs.length (relV (fun es => compl xs.length es (prs xs.length).length) xs ys)), .slice A3_41 ((rel1 (relV (fun es => compl xs.length es (prs xs.length).length) xs ys)).length) (k3_41)], .int .i64 (1)]) (cs := []) en18 rfl rfl (call_m (.tail (.tail (.tail (.tail (.tail (.tail .head)))))) (fun w hw => markGraph_c w _ _ _ A3_41 ((rel1 (relV (fun es => compl xs.length es (prs xs.length).length) xs ys)).length) c3_41 k3_41 (rel1 (relV (fun es => compl xs.length es (prs xs.length).length) xs ys)) 1 (relN xs.length (relV (fun es => compl xs.length es (prs xs.length).length) xs ys)) rfl h_41.1 (by first | assumption | omega | (simp; omega)) (by first | assumption | omega | (simp; omega)) hw))) rfl rfl (kt0 rfl ?_)
                        refine wl_v (ov_assign rfl) rfl rfl rfl ?_
                        refine wl_nil ?_
                        refine ce_then ?_
                        refine cw_seq ?_
                        refine cw_region ?_
                        refine wl_v (ov_loadAgg (vs := [.int .i64 (relN xs.length (relV (fun es => compl xs.length es (prs xs.length).length) xs ys)), .slice A4_41 ((rel2 (relV (fun es => compl xs.length es (prs xs.length).length) xs ys)).length) (k4_41)]) tI30 (holds_blk (List.Mem.tail _ (List.Mem.tail _ (List.Mem.tail _ (List.Mem.tail _ (List.Mem.tail _ (List.Mem.head _))))))) rfl some_lit rfl rfl) rfl rfl rfl ?_
                        refine wl_v (ov_move rfl) rfl rfl rfl ?_
                        refine wl_r (or_call (fv := []) (vs := [.agg #[.int .i64 (relN xs.length (relV (fun es => compl xs.length es (prs xs.length).length) xs ys)), .slice A4_41 ((rel2 (relV (fun es => compl xs.length es (prs xs.length).length) xs ys)).length) (k4_41)], .int .i64 (1 + 2 * (((rel1 (relV (fun es => compl xs.length es (prs xs.length).length) xs ys)).length) : Int))]) (cs := []) en18 rfl rfl (call_m (.tail (.tail (.tail (.tail (.tail (.tail (.tail .head))))))) (fun w hw => markGraph_c w _ _ _ A4_41 ((rel2 (relV (fun es => compl xs.length es (prs xs.length).length) xs ys)).length) c4_41 k4_41 (rel2 (relV (fun es => compl xs.length es (prs xs.length).length) xs ys)) (1 + 2 * (((rel1 (relV (fun es => compl xs.length es (prs xs.length).length) xs ys)).length) : Int)) (relN xs.length (relV (fun es => compl xs.length es (prs xs.length).length) xs ys)) rfl h_41.2 (by first | assumption | omega | (simp; omega)) (by first | assumption | omega | (simp; omega)) hw))) rfl rfl (kt0 rfl ?_)
                        refine wl_v (ov_assign rfl) rfl rfl rfl ?_
                        refine wl_nil ?_
                        refine ce_then ?_
                        refine cw_seq ?_
                        refine cw_region ?_
                        refine wl_v (ov_assign rfl) rfl rfl rfl ?_
                        refine wl_nil ?_
                        refine ce_then ?_
                        refine cw_seq ?_
                        refine cw_region ?_
                        refine wl_v (ov_loadAgg (vs := [.int .i64 (relN xs.length (relV (fun es => compl xs.length es (prs xs.length).length) xs ys)), .slice A3_41 ((rel1 (relV (fun es => compl xs.length es (prs xs.length).length) xs ys)).length) (k3_41)]) tI30 (holds_blk (List.Mem.tail _ (List.Mem.tail _ (List.Mem.tail _ (List.Mem.tail _ (List.Mem.tail _ (List.Mem.tail _ (List.Mem.tail _ (List.Mem.head _))))))))) rfl some_lit rfl rfl) rfl rfl rfl ?_
                        refine wl_v (ov_move rfl) rfl rfl rfl ?_
                        refine wl_r (or_call (fv := []) (vs := [.agg #[.int .i64 (relN xs.length (relV (fun es => compl xs.length es (prs xs.length).length) xs ys)), .slice A3_41 ((rel1 (relV (fun es => compl xs.length es (prs xs.length).length) xs ys)).length) (k3_41)], .int .i64 (1)]) (cs := []) en23 rfl rfl (call_v (fun w hw => heldGraph_c w (relN xs.length (relV (fun es => compl xs.length es (prs xs.length).length) xs ys)) A3_41 ((rel1 (relV (fun es => compl xs.length es (prs xs.length).length) xs ys)).length) k3_41 (marksE 1 ((rel1 (relV (fun es => compl xs.length es (prs xs.length).length) xs ys)).length)) 1 ((holds_row (List.Mem.tail _ (List.Mem.head _))) w hw) (marksE_length _ _) h_41.1 (by first | omega | (rw [marksE_length]; omega)) (by first | assumption | omega | (simp; omega))))) rfl rfl (kt0 rfl ?_)
                        refine wl_v (ov_assign rfl) rfl rfl rfl ?_
                        refine wl_nil ?_
                        refine ce_then ?_
                        refine cw_seq ?_
                        refine cw_seq ?_
                        refine cw_region ?_
                        refine wl_v (ov_move rfl) rfl rfl rfl ?_
                        refine wl_if (ov_lss rfl rfl) rfl rfl rfl (fun c105 => ?_) (fun c105 => ?_)
                        ·
                          first | (exfalso; omega) | exact absurd rfl c105 | exact absurd (by simp) c105 | (exfalso; simp at c105; omega) | exact absurd ⟨rfl, rfl⟩ c105 | (simp at c105)
                        ·
                          refine wl_nil ?_
                          refine ce_then ?_
                          refine cw_false rfl ?_
                          refine cw_skip ?_
                          refine ce_then ?_
                          refine cw_seq ?_
                          refine cw_region ?_
                          refine wl_v (ov_loadAgg (vs := [.int .i64 (relN xs.length (relV (fun es => compl xs.length es (prs xs.length).length) xs ys)), .slice A4_41 ((rel2 (relV (fun es => compl xs.length es (prs xs.length).length) xs ys)).length) (k4_41)]) tI30 (holds_blk (List.Mem.tail _ (List.Mem.tail _ (List.Mem.tail _ (List.Mem.tail _ (List.Mem.tail _ (List.Mem.tail _ (List.Mem.head _)))))))) rfl some_lit rfl rfl) rfl rfl rfl ?_
                          refine wl_v (ov_move rfl) rfl rfl rfl ?_
                          refine wl_r (or_call (fv := []) (vs := [.agg #[.int .i64 (relN xs.length (relV (fun es => compl xs.length es (prs xs.length).length) xs ys)), .slice A4_41 ((rel2 (relV (fun es => compl xs.length es (prs xs.length).length) xs ys)).length) (k4_41)], .int .i64 (if (marksE 1 ((rel1 (relV (fun es => compl xs.length es (prs xs.length).length) xs ys)).length)) = marksE 1 ((rel1 (relV (fun es => compl xs.length es (prs xs.length).length) xs ys)).length) then 1 + 2 * (((rel1 (relV (fun es => compl xs.length es (prs xs.length).length) xs ys)).length) : Int) else -1)]) (cs := []) en23 rfl rfl (call_v (fun w hw => heldGraph_c w (relN xs.length (relV (fun es => compl xs.length es (prs xs.length).length) xs ys)) A4_41 ((rel2 (relV (fun es => compl xs.length es (prs xs.length).length) xs ys)).length) k4_41 (marksE (1 + 2 * (((rel1 (relV (fun es => compl xs.length es (prs xs.length).length) xs ys)).length) : Int)) ((rel2 (relV (fun es => compl xs.length es (prs xs.length).length) xs ys)).length)) (if (marksE 1 ((rel1 (relV (fun es => compl xs.length es (prs xs.length).length) xs ys)).length)) = marksE 1 ((rel1 (relV (fun es => compl xs.length es (prs xs.length).length) xs ys)).length) then 1 + 2 * (((rel1 (relV (fun es => compl xs.length es (prs xs.length).length) xs ys)).length) : Int) else -1) ((holds_row (List.Mem.head _)) w hw) (marksE_length _ _) h_41.2 (by first | omega | (rw [marksE_length]; omega)) (by first | assumption | omega | (simp; omega))))) rfl rfl (kt0 rfl ?_)
                          refine wl_v (ov_assign rfl) rfl rfl rfl ?_
                          refine wl_nil ?_
                          refine ce_then ?_
                          refine cw_seq ?_
                          refine cw_seq ?_
                          refine cw_region ?_
                          refine wl_v (ov_move rfl) rfl rfl rfl ?_
                          refine wl_if (ov_lss rfl rfl) rfl rfl rfl (fun c110 => ?_) (fun c110 => ?_)
                          ·
                            first | (exfalso; omega) | exact absurd rfl c110 | exact absurd (by simp) c110 | (exfalso; simp at c110; omega) | exact absurd ⟨rfl, rfl⟩ c110 | (simp at c110)
                          ·
                            refine wl_nil ?_
                            refine ce_then ?_
                            refine cw_false rfl ?_
                            refine cw_skip ?_
                            refine ce_then ?_
                            refine cw_seq ?_
                            refine cw_seq ?_
                            refine cw_region ?_
                            refine wl_v (ov_move rfl) rfl rfl rfl ?_
                            refine wl_v (ov_move rfl) rfl rfl rfl ?_
                            refine wl_if (ov_neq rfl rfl) rfl rfl rfl (fun c113 => ?_) (fun c113 => ?_)
                            ·
                              first | (exfalso; omega) | exact absurd rfl c113 | exact absurd (by simp) c113 | (exfalso; simp at c113; omega) | exact absurd ⟨rfl, rfl⟩ c113 | (simp at c113)
                            ·
                              refine wl_nil ?_
                              refine ce_then ?_
                              refine cw_false rfl ?_
                              refine cw_skip ?_
                              refine ce_then ?_
                              refine cw_seq ?_
                              refine cw_region ?_
                              refine wl_v (ov_move rfl) rfl rfl rfl ?_
                              refine wl_r (or_call (fv := []) (vs := [.slice A (xs.length) (c)]) (cs := []) en12 rfl rfl (call_x1 (fun w hw => toIntS_c w A xs.length c xs ((holds_old oA) w hw) rfl lA (by first | assumption | omega | (simp; omega))))) rfl rfl (kt1p rfl (fun g_116 h_116 => ?_))
                              refine wl_v (ov_move rfl) rfl rfl rfl ?_
                              refine wl_r (or_call (fv := []) (vs := [.slice A2 (ys.length) (c2)]) (cs := []) en12 rfl rfl (call_x1 (fun w hw => toIntS_c w A2 ys.length c2 ys ((holds_old oA2) w hw) rfl lA2 (by first | assumption | omega | (simp; omega))))) rfl rfl (kt1p rfl (fun g_118 h_118 => ?_))
                              refine wl_r (or_call (fv := []) (vs := [.slice (some ⟨g_116, 0, none⟩) (xs.length) (xs.length), .slice (some ⟨g_118, 0, none⟩) (ys.length) (ys.length)]) (cs := []) en25 rfl rfl (call_x6 (fun w hw => PackI_c w (some ⟨g_116, 0, none⟩) xs.length xs.length xs (some ⟨g_118, 0, none⟩) ys.length ys.length ys ((holds_row (List.Mem.tail _ (List.Mem.head _))) w hw) rfl (Nat.le_refl _) ((holds_row (List.Mem.head _)) w hw) rfl (Nat.le_refl _) (by first | assumption | omega | (simp; omega))))) rfl rfl (kt6p rfl (fun A3_119 k3_119 c3_119 A4_119 k4_119 c4_119 h_119 => ?_))
                              refine wl_v (ov_move rfl) rfl rfl rfl ?_
                              refine wl_v (ov_extract rfl rfl) rfl rfl rfl ?_
                              refine wl_v (ov_extract rfl rfl) rfl rfl rfl ?_
                              refine wl_v (ov_extract rfl rfl) rfl rfl rfl ?_
                              refine wl_r (or_alloc tI30 rfl) rfl rfl (kt1 rfl (fun g16 => ?_))
                              refine wl_r (or_alloc tI30 rfl) rfl rfl (kt1 rfl (fun g17 => ?_))
                              refine wl_r0 (or_store_blk (vs := [.int .i64 (relN xs.length (relV (fun es => compl xs.length es (prs xs.length).length) xs ys)), .slice A3_119 ((rel1 (relV (fun es => compl xs.length es (prs xs.length).length) xs ys)).length) (k3_119)]) (cs' := [.int .i64 (relN xs.length (relV (fun es => compl xs.length es (prs xs.length).length) xs ys)), .slice A3_119 ((rel1 (relV (fun es => compl xs.length es (prs xs.length).length) xs ys)).length) (k3_119)]) (.tail .head) tI30 rfl rfl rfl rfl (Nat.le_of_ble_eq_true rfl) rfl) rfl rfl (kn0 ?_)
                              refine wl_r0 (or_store_blk (vs := [.int .i64 (relN xs.length (relV (fun es => compl xs.length es (prs xs.length).length) xs ys)), .slice A4_119 ((rel2 (relV (fun es => compl xs.length es (prs xs.length).length) xs ys)).length) (k4_119)]) (cs' := [.int .i64 (relN xs.length (relV (fun es => compl xs.length es (prs xs.length).length) xs ys)), .slice A4_119 ((rel2 (relV (fun es => compl xs.length es (prs xs.length).length) xs ys)).length) (k4_119)]) (.tail .head) tI30 rfl rfl rfl rfl (Nat.le_of_ble_eq_true rfl) rfl) rfl rfl (kn0 ?_)
                              refine wl_v (ov_assign rfl) rfl rfl rfl ?_
                              refine wl_nil ?_
                              refine ce_then ?_
                              refine cw_seq ?_
                              refine cw_seq ?_
                              refine cw_region ?_
                              refine wl_v (ov_loadAgg (vs := [.int .i64 (relN xs.length (relV (fun es => compl xs.length es (prs xs.length).length) xs ys)), .slice A3_119 ((rel1 (relV (fun es => compl xs.length es (prs xs.length).length) xs ys)).length) (k3_119)]) tI30 (holds_blk (List.Mem.tail _ (List.Mem.head _))) rfl some_lit rfl rfl) rfl rfl rfl ?_
                              refine wl_v (ov_loadAgg (vs := [.int .i64 (relN xs.length (relV (fun es => compl xs.length es (prs xs.length).length) xs ys)), .slice A3_30 ((rel1 (relV (fun es => compl xs.length es (prs xs.length).length) xs ys)).length) (k3_30)]) tI30 (holds_blk (List.Mem.tail _ (List.Mem.tail _ (List.Mem.tail _ (List.Mem.tail _ (List.Mem.tail _ (List.Mem.tail _ (List.Mem.tail _ (List.Mem.tail _ (List.Mem.tail _ (List.Mem.tail _ (List.Mem.tail _ (List.Mem.tail _ (List.Mem.tail _ (List.Mem.tail _ (List.Mem.tail _ (List.Mem.head _))))))))))))))))) rfl some_lit rfl rfl) rfl rfl rfl ?_
                              refine wl_r (or_call (fv := []) (vs := [.agg #[.int .i64 (relN xs.length (relV (fun es => compl xs.length es (prs xs.length).length) xs ys)), .slice A3_119 ((rel1 (relV (fun es => compl xs.length es (prs xs.length).length) xs ys)).length) (k3_119)], .agg #[.int .i64 (relN xs.length (relV (fun es => compl xs.length es (prs xs.length).length) xs ys)), .slice A3_30 ((rel1 (relV (fun es => compl xs.length es (prs xs.length).length) xs ys)).length) (k3_30)]]) (cs := []) en14 rfl rfl (call_v (fun w hw => eqGraph_c w (relN xs.length (relV (fun es => compl xs.length es (prs xs.length).length) xs ys)) A3_119 ((rel1 (relV (fun es => compl xs.length es (prs xs.length).length) xs ys)).length) k3_119 (rel1 (relV (fun es => compl xs.length es (prs xs.length).length) xs ys)) (relN xs.length (relV (fun es => compl xs.length es (prs xs.length).length) xs ys)) A3_30 ((rel1 (relV (fun es => compl xs.length es (prs xs.length).length) xs ys)).length) k3_30 (rel1 (relV (fun es => compl xs.length es (prs xs.length).length) xs ys)) ((holds_row (List.Mem.tail _ (List.Mem.tail _ (List.Mem.head _)))) w hw) rfl h_119.1 ((holds_row (List.Mem.tail _ (List.Mem.tail _ (List.Mem.tail _ (List.Mem.tail _ (List.Mem.tail _ (List.Mem.tail _ (List.Mem.tail _ (List.Mem.tail _ (List.Mem.tail _ (List.Mem.tail _ (List.Mem.tail _ (List.Mem.tail _ (List.Mem.tail _ (List.Mem.tail _ (List.Mem.tail _ (List.Mem.tail _ (List.Mem.head _)))))))))))))))))) w hw) rfl h_30.1 (by first | assumption | omega | (simp; omega))))) rfl rfl (kt_if rfl (fun c125 => ?_) (fun c125 => ?_))
                              ·
                                refine wl_v (ov_not rfl) rfl rfl rfl ?_
                                refine wl_v (ov_move rfl) rfl rfl rfl ?_
                                refine wl_go rfl rfl ?_
                                refine wl_v (ov_loadAgg (vs := [.int .i64 (relN xs.length (relV (fun es => compl xs.length es (prs xs.length).length) xs ys)), .slice A4_119 ((rel2 (relV (fun es => compl xs.length es (prs xs.length).length) xs ys)).length) (k4_119)]) tI30 (holds_blk (List.Mem.head _)) rfl some_lit rfl rfl) rfl rfl rfl ?_
                                refine wl_go rfl rfl ?_
                                refine wl_v (ov_loadAgg (vs := [.int .i64 (relN xs.length (relV (fun es => compl xs.length es (prs xs.length).length) xs ys)), .slice A4_30 ((rel2 (relV (fun es => compl xs.length es (prs xs.length).length) xs ys)).length) (k4_30)]) tI30 (holds_blk (List.Mem.tail _ (List.Mem.tail _ (List.Mem.tail _ (List.Mem.tail _ (List.Mem.tail _ (List.Mem.tail _ (List.Mem.tail _ (List.Mem.tail _ (List.Mem.tail _ (List.Mem.tail _ (List.Mem.tail _ (List.Mem.tail _ (List.Mem.tail _ (List.Mem.tail _ (List.Mem.head _)))))))))))))))) rfl some_lit rfl rfl) rfl rfl rfl ?_
                                refine wl_go rfl rfl ?_
                                refine wl_r (or_call (fv := []) (vs := [.agg #[.int .i64 (relN xs.length (relV (fun es => compl xs.length es (prs xs.length).length) xs ys)), .slice A4_119 ((rel2 (relV (fun es => compl xs.length es (prs xs.length).length) xs ys)).length) (k4_119)], .agg #[.int .i64 (relN xs.length (relV (fun es => compl xs.length es (prs xs.length).length) xs ys)), .slice A4_30 ((rel2 (relV (fun es => compl xs.length es (prs xs.length).length) xs ys)).length) (k4_30)]]) (cs := []) en14 rfl rfl (call_v (fun w hw => eqGraph_c w (relN xs.length (relV (fun es => compl xs.length es (prs xs.length).length) xs ys)) A4_119 ((rel2 (relV (fun es => compl xs.length es (prs xs.length).length) xs ys)).length) k4_119 (rel2 (relV (fun es => compl xs.length es (prs xs.length).length) xs ys)) (relN xs.length (relV (fun es => compl xs.length es (prs xs.length).length) xs ys)) A4_30 ((rel2 (relV (fun es => compl xs.length es (prs xs.length).length) xs ys)).length) k4_30 (rel2 (relV (fun es => compl xs.length es (prs xs.length).length) xs ys)) ((holds_row (List.Mem.tail _ (List.Mem.tail _ (List.Mem.tail _ (List.Mem.head _))))) w hw) rfl h_119.2 ((holds_row (List.Mem.tail _ (List.Mem.tail _ (List.Mem.tail _ (List.Mem.tail _ (List.Mem.tail _ (List.Mem.tail _ (List.Mem.tail _ (List.Mem.tail _ (List.Mem.tail _ (List.Mem.tail _ (List.Mem.tail _ (List.Mem.tail _ (List.Mem.tail _ (List.Mem.tail _ (List.Mem.tail _ (List.Mem.tail _ (List.Mem.tail _ (List.Mem.head _))))))))))))))))))) w hw) rfl h_30.2 (by first | assumption | omega | (simp; omega))))) rfl rfl (kt_if rfl (fun c130 => ?_) (fun c130 => ?_))
                                ·
                                  refine wl_go rfl rfl ?_
                                  refine wl_v (ov_not rfl) rfl rfl rfl ?_
                                  refine wl_v (ov_pick_f rfl rfl) rfl rfl rfl ?_
                                  refine wl_v (ov_move rfl) rfl rfl rfl ?_
                                  refine wl_go rfl rfl ?_
                                  refine wl_v (ov_move rfl) rfl rfl rfl ?_
                                  refine wl_go rfl rfl ?_
                                  refine wl_v (ov_move rfl) rfl rfl rfl ?_
                                  refine wl_go rfl rfl ?_
                                  refine wl_if (OpV.dec (ov_neqb uI4 rfl rfl)) rfl rfl rfl (fun c136 => ?_) (fun c136 => ?_)
                                  ·
                                    first | (exfalso; omega) | exact absurd rfl c136 | exact absurd (by simp) c136 | (exfalso; simp at c136; omega) | exact absurd ⟨rfl, rfl⟩ c136 | (simp at c136)
                                  ·
                                    refine wl_v (ov_pick_f rfl rfl) rfl rfl rfl ?_
                                    refine wl_nil ?_
                                    refine ce_then ?_
                                    refine cw_false rfl ?_
                                    refine cw_skip ?_
                                    refine ce_then ?_
                                    refine cw_seq ?_
                                    refine cw_region ?_
                                    refine wl_v (ov_assign rfl) rfl rfl rfl ?_
                                    refine wl_nil ?_
                                    refine ce_then ?_
                                    refine cw_seq ?_
                                    refine cw_region ?_
                                    refine wl_v (ov_loadAgg (vs := [.int .i64 (relN xs.length (relV (fun es => compl xs.length es (prs xs.length).length) xs ys)), .slice A3_41 ((rel1 (relV (fun es => compl xs.length es (prs xs.length).length) xs ys)).length) (k3_41)]) tI30 (holds_blk (List.Mem.tail _ (List.Mem.tail _ (List.Mem.tail _ (List.Mem.tail _ (List.Mem.tail _ (List.Mem.tail _ (List.Mem.tail _ (List.Mem.tail _ (List.Mem.tail _ (List.Mem.tail _ (List.Mem.tail _ (List.Mem.tail _ (List.Mem.tail _ (List.Mem.head _))))))))))))))) rfl some_lit rfl rfl) rfl rfl rfl ?_
                                    refine wl_v (ov_move rfl) rfl rfl rfl ?_
                                    refine wl_r (or_call (fv := []) (vs := [.agg #[.int .i64 (relN xs.length (relV (fun es => compl xs.length es (prs xs.length).length) xs ys)), .slice A3_41 ((rel1 (relV (fun es => compl xs.length es (prs xs.length).length) xs ys)).length) (k3_41)], .int .i64 (1)]) (cs := []) en23 rfl rfl (call_v (fun w hw => heldGraph_c w (relN xs.length (relV (fun es => compl xs.length es (prs xs.length).length) xs ys)) A3_41 ((rel1 (relV (fun es => compl xs.length es (prs xs.length).length) xs ys)).length) k3_41 (marksE 1 ((rel1 (relV (fun es => compl xs.length es (prs xs.length).length) xs ys)).length)) 1 ((holds_row (List.Mem.tail _ (List.Mem.tail _ (List.Mem.tail _ (List.Mem.tail _ (List.Mem.tail _ (List.Mem.tail _ (List.Mem.tail _ (List.Mem.head _))))))))) w hw) (marksE_length _ _) h_41.1 (by first | omega | (rw [marksE_length]; omega)) (by first | assumption | omega | (simp; omega))))) rfl rfl (kt0 rfl ?_)
                                    refine wl_v (ov_assign rfl) rfl rfl rfl ?_
                                    refine wl_nil ?_
                                    refine ce_then ?_
                                    refine cw_seq ?_
                                    refine cw_seq ?_
                                    refine cw_region ?_
                                    refine wl_v (ov_move rfl) rfl rfl rfl ?_
                                    refine wl_if (ov_lss rfl rfl) rfl rfl rfl (fun c142 => ?_) (fun c142 => ?_)
                                    ·
                                      first | (exfalso; omega) | exact absurd rfl c142 | exact absurd (by simp) c142 | (exfalso; simp at c142; omega) | exact absurd ⟨rfl, rfl⟩ c142 | (simp at c142)
                                    ·
                                      refine wl_nil ?_
                                      refine ce_then ?_
                                      refine cw_false rfl ?_
                                      refine cw_skip ?_
                                      refine ce_then ?_
                                      refine cw_seq ?_
                                      refine cw_region ?_
                                      refine wl_v (ov_loadAgg (vs := [.int .i64 (relN xs.length (relV (fun es => compl xs.length es (prs xs.length).length) xs ys)), .slice A4_41 ((rel2 (relV (fun es => compl xs.length es (prs xs.length).length) xs ys)).length) (k4_41)]) tI30 (holds_blk (List.Mem.tail _ (List.Mem.tail _ (List.Mem.tail _ (List.Mem.tail _ (List.Mem.tail _ (List.Mem.tail _ (List.Mem.tail _ (List.Mem.tail _ (List.Mem.tail _ (List.Mem.tail _ (List.Mem.tail _ (List.Mem.tail _ (List.Mem.head _)))))))))))))) rfl some_lit rfl rfl) rfl rfl rfl ?_
                                      refine wl_v (ov_move rfl) rfl rfl rfl ?_
                                      refine wl_r (or_call (fv := []) (vs := [.agg #[.int .i64 (relN xs.length (relV (fun es => compl xs.length es (prs xs.length).length) xs ys)), .slice A4_41 ((rel2 (relV (fun es => compl xs.length es (prs xs.length).length) xs ys)).length) (k4_41)], .int .i64 (if (marksE 1 ((rel1 (relV (fun es => compl xs.length es (prs xs.length).length) xs ys)).length)) = marksE 1 ((rel1 (relV (fun es => compl xs.length es (prs xs.length).length) xs ys)).length) then 1 + 2 * (((rel1 (relV (fun es => compl xs.length es (prs xs.length).length) xs ys)).length) : Int) else -1)]) (cs := []) en23 rfl rfl (call_v (fun w hw => heldGraph_c w (relN xs.length (relV (fun es => compl xs.length es (prs xs.length).length) xs ys)) A4_41 ((rel2 (relV (fun es => compl xs.length es (prs xs.length).length) xs ys)).length) k4_41 (marksE (1 + 2 * (((rel1 (relV (fun es => compl xs.length es (prs xs.length).length) xs ys)).length) : Int)) ((rel2 (relV (fun es => compl xs.length es (prs xs.length).length) xs ys)).length)) (if (marksE 1 ((rel1 (relV (fun es => compl xs.length es (prs xs.length).length) xs ys)).length)) = marksE 1 ((rel1 (relV (fun es => compl xs.length es (prs xs.length).length) xs ys)).length) then 1 + 2 * (((rel1 (relV (fun es => compl xs.length es (prs xs.length).length) xs ys)).length) : Int) else -1) ((holds_row (List.Mem.tail _ (List.Mem.tail _ (List.Mem.tail _ (List.Mem.tail _ (List.Mem.tail _ (List.Mem.tail _ (List.Mem.head _)))))))) w hw) (marksE_length _ _) h_41.2 (by first | omega | (rw [marksE_length]; omega)) (by first | assumption | omega | (simp; omega))))) rfl rfl (kt0 rfl ?_)
                                      refine wl_v (ov_assign rfl) rfl rfl rfl ?_
                                      refine wl_nil ?_
                                      refine ce_then ?_
                                      refine cw_seq ?_
                                      refine cw_seq ?_
                                      refine cw_region ?_
                                      refine wl_v (ov_move rfl) rfl rfl rfl ?_
                                      refine wl_if (ov_lss rfl rfl) rfl rfl rfl (fun c147 => ?_) (fun c147 => ?_)
                                      ·
                                        first | (exfalso; omega) | exact absurd rfl c147 | exact absurd (by simp) c147 | (exfalso; simp at c147; omega) | exact absurd ⟨rfl, rfl⟩ c147 | (simp at c147)
                                      ·
                                        refine wl_nil ?_
                                        refine ce_then ?_
                                        refine cw_false rfl ?_
                                        refine cw_skip ?_
                                        refine ce_then ?_
                                        refine cw_seq ?_
                                        refine cw_seq ?_
                                        refine cw_region ?_
                                        refine wl_v (ov_move rfl) rfl rfl rfl ?_
                                        refine wl_v (ov_move rfl) rfl rfl rfl ?_
                                        refine wl_if (ov_neq rfl rfl) rfl rfl rfl (fun c150 => ?_) (fun c150 => ?_)
                                        ·
                                          first | (exfalso; omega) | exact absurd rfl c150 | exact absurd (by simp) c150 | (exfalso; simp at c150; omega) | exact absurd ⟨rfl, rfl⟩ c150 | (simp at c150)
                                        ·
                                          refine wl_nil ?_
                                          refine ce_then ?_
                                          refine cw_false rfl ?_
                                          refine cw_skip ?_
                                          refine ce_then ?_
                                          refine cw_seq ?_
                                          refine cw_region ?_
                                          refine wl_v (ov_assign rfl) rfl rfl rfl ?_
                                          refine wl_nil ?_
                                          refine ce_then ?_
                                          refine cw_ret ?_
                                          refine ce_results (v := .bool true) (res1 rfl (rv_t rfl)) (fun w' hw => ?_)
                                          exact ⟨rfl, (Keep.nil.ss hw).to_new⟩
                                ·
                                  first | (exfalso; omega) | exact absurd rfl c130 | exact absurd (by simp) c130 | (exfalso; simp at c130; omega) | exact absurd ⟨rfl, rfl⟩ c130 | (simp at c130)
                              ·
                                first | (exfalso; omega) | exact absurd rfl c125 | exact absurd (by simp) c125 | (exfalso; simp at c125; omega) | exact absurd ⟨rfl, rfl⟩ c125 | (simp at c125)
                    ·
                      first | (exfalso; omega) | exact absurd rfl c87 | exact absurd (by simp) c87 | (exfalso; simp at c87; omega) | exact absurd ⟨rfl, rfl⟩ c87 | (simp at c87)
                  ·
                    first | (exfalso; omega) | exact absurd rfl c81 | exact absurd (by simp) c81 | (exfalso; simp at c81; omega) | exact absurd ⟨rfl, rfl⟩ c81 | (simp at c81)
              ·
                first | (exfalso; omega) | exact absurd rfl c68 | exact absurd (by simp) c68 | (exfalso; simp at c68; omega) | exact absurd ⟨rfl, rfl⟩ c68 | (simp at c68)
            ·
              first | (exfalso; omega) | exact absurd rfl c63 | exact absurd (by simp) c63 | (exfalso; simp at c63; omega) | exact absurd ⟨rfl, rfl⟩ c63 | (simp at c63)
        ·
          first | (exfalso; omega) | exact absurd rfl c52 | exact absurd (by simp) c52 | (exfalso; simp at c52; omega) | exact absurd ⟨rfl, rfl⟩ c52 | (simp at c52)
      ·
        first | (exfalso; omega) | exact absurd rfl c47 | exact absurd (by simp) c47 | (exfalso; simp at c47; omega) | exact absurd ⟨rfl, rfl⟩ c47 | (simp at c47)
end Go.Proofs.Ytlgkooeflgmcaab.LFnExactPackDegrees
