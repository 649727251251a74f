/- Walks of functions of the given program: each returns what its Lean function says and leaves the memory that was there as it was. Conditions: those of each theorem. -/
import Derived.Test.YthbfgkeoojghoaaSm
import Derived.Test.YthbfgkeoojghoaaProg
import Derived.Test.YthbfgkeoojghoaaPl
import Derived.Test.YthbfgkeoojghoaaPo
import Derived.Test.YthbfgkeoojghoaaPd
import Derived.Test.YthbfgkeoojghoaaPe
import Derived.Test.YthbfgkeoojghoaaPh
import Derived.Test.YthbfgkeoojghoaaPm
import Derived.Test.YthbfgkeoojghoaaPc
import Derived.Test.YthbfgkeoojghoaaPs
import Derived.Test.YthbfgkeoojghoaaPt
import Derived.Test.YthbfgkeoojghoaaPu
import Derived.Test.YthbfgkeoojghoaaPv
import Derived.Test.YthbfgkeoojghoaaPw
import Derived.Test.YthbfgkeoojghoaaPx
import Derived.Test.YthbfgkeoojghoaaPy
import Derived.Test.YthbfgkeoojghoaaSo
import Derived.Test.YthbfgkeoojghoaaSh
import Derived.Test.YthbfgkeoojghoaaT
import Derived.Test.YthbfgkeoojghoaaW2
import Derived.Test.YthbfgkeoojghoaaW5
import Derived.Test.YthbfgkeoojghoaaW42
import Derived.KernelRfl
namespace Go.Proofs.Ythbfgkeoojghoaa.LFnExactBarrierOf
open Go.Sx Go.RowKit Go.Proofs.Ythbfgkeoojghoaa.T Go.Proofs.Ythbfgkeoojghoaa.W2 Go.Proofs.Ythbfgkeoojghoaa.W5 Go.Proofs.Ythbfgkeoojghoaa.W42
open Go.Plain
set_option linter.unusedVariables false
set_option maxRecDepth 100000 in
theorem FnExactBarrierOf_c (w : World) (N : Int) (A : Option Addr) (n : Nat) (c : Nat) (es : List (Int × Int)) (hA : At w A (cells fE es)) (eA : es.length = n) (lA : n ≤ c) (hN : -9223372036854775808 ≤ N ∧ N ≤ 9223372036854775807) (hn : n ≤ 9223372036854775807) : Calls Try.prog 4 #[.agg #[.int .i64 (N), .slice A (n) (c)]] w (Ret fun rv w' => rv = .bool true ∧ New w w' []) := by
  have oA := hA.atB
  subst eA
  have hll : (barV N es).length ≤ 7 := barV_len N es
  refine fn_enter (args := [.agg #[.int .i64 (N), .slice A (es.length) (c)]]) Try.func4 rfl Try.ntmps4 rfl (SS.start w) ?_
  refine cw_seq ?_
  refine cw_region ?_
  refine wl_r (or_box rfl rfl) rfl rfl (kt1 rfl (fun g1 => ?_))
  refine wl_v (ov_assign rfl) rfl rfl rfl ?_
  refine wl_nil ?_
  refine ce_then ?_
  refine cw_seq ?_
  refine cw_region ?_
  refine wl_v (ov_assign rfl) rfl rfl rfl ?_
  refine wl_nil ?_
  refine ce_then ?_
  refine cw_seq ?_
  refine cw_region ?_
  refine wl_v (ov_loadAgg (vs := [.int .i64 (N), .slice A (es.length) (c)]) tI37 (holds_blk (List.Mem.head _)) rfl some_lit rfl rfl) rfl rfl rfl ?_
  refine wl_v (ov_move rfl) rfl rfl rfl ?_
  refine wl_r (or_call (fv := []) (vs := [.agg #[.int .i64 (N), .slice A (es.length) (c)], .int .i64 (1048576)]) (cs := []) en17 rfl rfl (call_v (fun w hw => szGraph_c w N A es.length c es 1048576 ((holds_old oA) w hw) rfl lA (by first | assumption | omega | (simp; omega))))) rfl rfl (kt0 rfl ?_)
  refine wl_v (ov_assign rfl) rfl rfl rfl ?_
  refine wl_nil ?_
  refine ce_then ?_
  refine cw_seq ?_
  refine cw_seq ?_
  refine cw_region ?_
  refine wl_v (ov_move rfl) rfl rfl rfl ?_
  refine wl_if (ov_lss rfl rfl) rfl rfl rfl (fun c15 => ?_) (fun c15 => ?_)
  ·
    refine wl_nil ?_
    refine ce_then ?_
    refine cw_true rfl ?_
    refine cw_seq ?_
    refine cw_region ?_
    refine wl_v (ov_assign rfl) rfl rfl rfl ?_
    refine wl_nil ?_
    refine ce_then ?_
    refine cw_ret ?_
    refine ce_then_ret ?_
    refine ce_results (v := .bool true) (res1 rfl (rv_t rfl)) (fun w' hw => ?_)
    exact ⟨rfl, (Keep.nil.ss hw).to_new⟩
  ·
    have hsz15 : es.length ≤ 1048576 := by split at c15 <;> omega
    refine wl_nil ?_
    refine ce_then ?_
    refine cw_false rfl ?_
    refine cw_skip ?_
    refine ce_then ?_
    refine cw_seq ?_
    refine cw_region ?_
    refine wl_v (ov_loadAgg (vs := [.int .i64 (N), .slice A (es.length) (c)]) tI37 (holds_blk (List.Mem.head _)) rfl some_lit rfl rfl) rfl rfl rfl ?_
    refine wl_r (or_call (fv := []) (vs := [.agg #[.int .i64 (N), .slice A (es.length) (c)]]) (cs := []) en18 rfl rfl (call_x1 (fun w hw => toGraph_c w N A es.length c es ((holds_old oA) w hw) rfl lA (by first | assumption | omega | (simp; omega))))) rfl rfl (kt1p rfl (fun g_17 h_17 => ?_))
    refine wl_r (or_call (fv := []) (vs := [.agg #[.int .i64 (N), .slice (some ⟨g_17, 0, none⟩) (es.length) (es.length)]]) (cs := []) en12 rfl rfl (call_x5 (fun w hw => BarS_c w N (some ⟨g_17, 0, none⟩) es.length es.length es ((holds_row (List.Mem.head _)) w hw) rfl (Nat.le_refl _) (by first | assumption | omega | (simp; omega)) (by first | assumption | omega | (simp; omega))))) rfl rfl (kt5p rfl (fun A2_18 k2_18 hs9_18 xss9_18 i0_18 h_18 => ?_))
    refine wl_v (ov_assign rfl) rfl rfl rfl ?_
    refine wl_nil ?_
    refine ce_then ?_
    refine cw_seq ?_
    refine cw_region ?_
    refine wl_v (ov_loadAgg (vs := [.int .i64 (N), .slice A (es.length) (c)]) tI37 (holds_blk (List.Mem.tail _ (List.Mem.tail _ (List.Mem.head _)))) rfl some_lit rfl rfl) rfl rfl rfl ?_
    refine wl_r (or_call (fv := []) (vs := [.agg #[.int .i64 (N), .slice A (es.length) (c)]]) (cs := []) en18 rfl rfl (call_x1 (fun w hw => toGraph_c w N A es.length c es ((holds_old oA) w hw) rfl lA (by first | assumption | omega | (simp; omega))))) rfl rfl (kt1p rfl (fun g_20 h_20 => ?_))
    refine wl_r (or_alloc tI25 rfl) rfl rfl (kt1 rfl (fun g5 => ?_))
    refine wl_r0 (or_store_blk (vs := [.int .i64 (N), .slice (some ⟨g_20, 0, none⟩) (es.length) (es.length)]) (cs' := [.int .i64 (N), .slice (some ⟨g_20, 0, none⟩) (es.length) (es.length)]) (.head) tI25 rfl rfl rfl rfl (Nat.le_of_ble_eq_true rfl) rfl) rfl rfl (kn0 ?_)
    refine wl_nil ?_
    refine ce_then ?_
    refine cw_seq ?_
    refine cw_region ?_
    refine wl_v (ov_loadAgg (vs := [.int .i64 (N), .slice (some ⟨g_20, 0, none⟩) (es.length) (es.length)]) tI25 (holds_blk (List.Mem.head _)) rfl some_lit rfl rfl) rfl rfl rfl ?_
    refine wl_r (or_call (fv := []) (vs := [.agg #[.int .i64 (N), .slice (some ⟨g_20, 0, none⟩) (es.length) (es.length)]]) (cs := []) en10 rfl rfl (call_x3 (fun w hw => BarI_c w N (some ⟨g_20, 0, none⟩) es.length es.length es ((holds_row (List.Mem.tail _ (List.Mem.head _))) w hw) rfl (Nat.le_refl _) (by first | assumption | omega | (simp; omega)) (by first | assumption | omega | (simp; omega))))) rfl rfl (kt3p rfl (fun A2_22 k2_22 c2_22 h_22 => ?_))
    refine wl_v (ov_assign rfl) rfl rfl rfl ?_
    refine wl_nil ?_
    refine ce_then ?_
    refine cw_seq ?_
    refine cw_seq ?_
    refine cw_region ?_
    refine wl_v (ov_move rfl) rfl rfl rfl ?_
    refine wl_v (ov_move rfl) rfl rfl rfl ?_
    refine wl_r (or_call (fv := []) (vs := [.slice A2_22 ((barV N es).length) (k2_22), .slice A2_18 ((barV N es).length) (k2_18)]) (cs := []) en19 rfl rfl (call_v (fun w hw => eqIntS_c w A2_22 ((barV N es).length) k2_22 (barV N es) A2_18 ((barV N es).length) k2_18 (barV N es) ((holds_row (List.Mem.head _)) w hw) rfl h_22 ((holds_pick (List.Mem.tail _ (List.Mem.tail _ (List.Mem.tail _ (List.Mem.head _)))) h_18.2) w hw) rfl h_18.1 (by first | assumption | omega | (simp; omega))))) rfl rfl (kt_if rfl (fun c25 => ?_) (fun c25 => ?_))
    ·
      refine wl_v (ov_not rfl) rfl rfl rfl ?_
      refine wl_nil ?_
      refine ce_then ?_
      refine cw_false rfl ?_
      refine cw_skip ?_
      refine ce_then ?_
      refine cw_seq ?_
      refine cw_seq ?_
      refine cw_draw mixO [] (.cons (.head) (.cons (.head) (.cons (.head) (.cons (.head) (.cons (.head) (.cons (.head) (.nil))))))) rfl ?_
      refine wg_take (i := 0) rfl (ov_loadAgg (vs := [.int .i64 (N), .slice (some ⟨g_20, 0, none⟩) (es.length) (es.length)]) tI25 (holds_blk (List.Mem.tail _ (List.Mem.head _))) rfl some_lit rfl rfl) rfl rfl rfl (by kernel_rfl) (by kernel_rfl) (by kernel_rfl) (by kernel_rfl) ?_
      refine wg_take (i := 1) rfl (ov_loadAgg (vs := [.int .i64 (N), .slice A (es.length) (c)]) tI37 (holds_blk (List.Mem.tail _ (List.Mem.tail _ (List.Mem.tail _ (List.Mem.tail _ (List.Mem.tail _ (List.Mem.head _))))))) rfl some_lit rfl rfl) rfl rfl rfl (by kernel_rfl) (by kernel_rfl) (by kernel_rfl) (by kernel_rfl) ?_
      refine wg_one (i := 2) (by kernel_rfl) ?_
      refine go_r rfl rfl rfl rfl (or_call (fv := []) (vs := [.agg #[.int .i64 (N), .slice A (es.length) (c)]]) (cs := []) en18 rfl rfl (call_x1 (fun w hw => toGraph_c w N A es.length c es ((holds_old oA) w hw) rfl lA (by first | assumption | omega | (simp; omega))))) (kt1p rfl (fun g_29 h_29 => ?_))
      refine gk (.cons (.tail .head) (.cons (.tail .head) (.cons (.tail .head) (.cons (.tail .head) (.cons (.tail .head) (.cons (.tail .head) (.nil))))))) ?_
      refine wg_one (i := 3) (by kernel_rfl) ?_
      refine go_r rfl rfl rfl rfl (or_call (fv := []) (vs := [.agg #[.int .i64 (N), .slice (some ⟨g_20, 0, none⟩) (es.length) (es.length)], .agg #[.int .i64 (N), .slice (some ⟨g_29, 0, none⟩) (es.length) (es.length)]]) (cs := []) en20 rfl rfl (call_v (fun w hw => eqGraph_c w N (some ⟨g_20, 0, none⟩) es.length es.length es N (some ⟨g_29, 0, none⟩) es.length es.length es ((holds_row (List.Mem.tail _ (List.Mem.tail _ (List.Mem.tail _ (List.Mem.head _))))) w hw) rfl (Nat.le_refl _) ((holds_row (List.Mem.head _)) w hw) rfl (Nat.le_refl _) (by first | assumption | omega | (simp; omega))))) (kt_if rfl (fun c30 => ?_) (fun c30 => ?_))
      ·
        refine gk (.cons (.tail .head) (.cons (.tail .head) (.cons (.tail .head) (.cons (.tail .head) (.cons (.tail .head) (.cons (.tail .head) (.nil))))))) ?_
        refine wg_takep (i := 4) rfl (ov_not rfl) rfl rfl rfl (by kernel_rfl) (by kernel_rfl) (by kernel_rfl) rfl ?_
        refine wg_done (by kernel_rfl) ?_
        refine ce_then ?_
        refine cw_false rfl ?_
        refine cw_skip ?_
        refine ce_then ?_
        refine cw_seq ?_
        refine cw_region ?_
        refine wl_v (ov_assign rfl) rfl rfl rfl ?_
        refine wl_nil ?_
        refine ce_then ?_
        refine cw_seq ?_
        refine cw_region ?_
        refine wl_v (ov_loadAgg (vs := [.int .i64 (N), .slice (some ⟨g_20, 0, none⟩) (es.length) (es.length)]) tI25 (holds_blk (List.Mem.tail _ (List.Mem.tail _ (List.Mem.head _)))) rfl some_lit rfl rfl) rfl rfl rfl ?_
        refine wl_v (ov_move rfl) rfl rfl rfl ?_
        refine wl_r (or_call (fv := []) (vs := [.agg #[.int .i64 (N), .slice (some ⟨g_20, 0, none⟩) (es.length) (es.length)], .int .i64 (1)]) (cs := []) en21 rfl rfl (call_m (.tail (.tail (.tail .head))) (fun w hw => markGraph_c w _ _ _ (some ⟨g_20, 0, none⟩) es.length es.length es.length es 1 N rfl (Nat.le_refl _) (by first | assumption | omega | (simp; omega)) (by first | assumption | omega | (simp; omega)) hw))) rfl rfl (kt0 rfl ?_)
        refine wl_v (ov_assign rfl) rfl rfl rfl ?_
        refine wl_nil ?_
        refine ce_then ?_
        refine cw_seq ?_
        refine cw_seq ?_
        refine cw_region ?_
        refine wl_v (ov_move rfl) rfl rfl rfl ?_
        refine wl_if (ov_lss rfl rfl) rfl rfl rfl (fun c36 => ?_) (fun c36 => ?_)
        ·
          first | (exfalso; omega) | exact absurd rfl c36 | exact absurd (by simp) c36 | (exfalso; simp at c36; omega) | exact absurd ⟨rfl, rfl⟩ c36
        ·
          refine wl_v (ov_move rfl) rfl rfl rfl ?_
          refine wl_go rfl rfl ?_
          refine wl_v (ov_move rfl) rfl rfl rfl ?_
          refine wl_go rfl rfl ?_
          refine wl_v (ov_move rfl) rfl rfl rfl ?_
          refine wl_go rfl rfl ?_
          refine wl_r (or_call (fv := []) (vs := [.slice A2_22 ((barV N es).length) (k2_22), .slice A2_18 ((barV N es).length) (k2_18)]) (cs := []) en19 rfl rfl (call_v (fun w hw => eqIntS_c w A2_22 ((barV N es).length) k2_22 (barV N es) A2_18 ((barV N es).length) k2_18 (barV N es) ((holds_row (List.Mem.tail _ (List.Mem.tail _ (List.Mem.head _)))) w hw) rfl h_22 ((holds_pick (List.Mem.tail _ (List.Mem.tail _ (List.Mem.tail _ (List.Mem.tail _ (List.Mem.head _))))) h_18.2) w hw) rfl h_18.1 (by first | assumption | omega | (simp; omega))))) rfl rfl (kt_if rfl (fun c40 => ?_) (fun c40 => ?_))
          ·
            refine wl_go rfl rfl ?_
            refine wl_v (ov_not rfl) rfl rfl rfl ?_
            refine wl_v (ov_pick_f rfl rfl) rfl rfl rfl ?_
            refine wl_nil ?_
            refine ce_then ?_
            refine cw_false rfl ?_
            refine cw_skip ?_
            refine ce_then ?_
            refine cw_seq ?_
            refine cw_region ?_
            refine wl_v (ov_assign rfl) rfl rfl rfl ?_
            refine wl_nil ?_
            refine ce_then ?_
            refine cw_seq ?_
            refine cw_region ?_
            refine wl_v (ov_move rfl) rfl rfl rfl ?_
            refine wl_v (ov_move rfl) rfl rfl rfl ?_
            refine wl_r (or_call (fv := []) (vs := [.slice A2_22 ((barV N es).length) (k2_22), .int .i64 (1)]) (cs := []) en22 rfl rfl (call_m (.tail (.tail .head)) (fun w hw => markIntS_c w _ _ _ A2_22 ((barV N es).length) c2_22 k2_22 (barV N es) 1 rfl h_22 (by first | assumption | omega | (simp; omega)) (by first | assumption | omega | (simp; omega)) hw))) rfl rfl (kt0 rfl ?_)
            refine wl_v (ov_assign rfl) rfl rfl rfl ?_
            refine wl_nil ?_
            refine ce_then ?_
            refine cw_seq ?_
            refine cw_region ?_
            refine wl_v (ov_assign rfl) rfl rfl rfl ?_
            refine wl_nil ?_
            refine ce_then ?_
            refine cw_seq ?_
            refine cw_region ?_
            refine wl_v (ov_move rfl) rfl rfl rfl ?_
            refine wl_v (ov_move rfl) rfl rfl rfl ?_
            refine wl_r (or_call (fv := []) (vs := [.slice A2_22 ((barV N es).length) (k2_22), .int .i64 (1)]) (cs := []) en23 rfl rfl (call_v (fun w hw => heldIntS_c w A2_22 ((barV N es).length) k2_22 (marks 1 ((barV N es).length)) 1 ((holds_row (List.Mem.head _)) w hw) (marks_length _ _) h_22 (by rw [marks_length]; omega) (by first | assumption | omega | (simp; omega))))) rfl rfl (kt0 rfl ?_)
            refine wl_v (ov_assign rfl) rfl rfl rfl ?_
            refine wl_nil ?_
            refine ce_then ?_
            refine cw_seq ?_
            refine cw_seq ?_
            refine cw_region ?_
            refine wl_v (ov_move rfl) rfl rfl rfl ?_
            refine wl_if (ov_lss rfl rfl) rfl rfl rfl (fun c50 => ?_) (fun c50 => ?_)
            ·
              first | (exfalso; omega) | exact absurd rfl c50 | exact absurd (by simp) c50 | (exfalso; simp at c50; omega) | exact absurd ⟨rfl, rfl⟩ c50
            ·
              refine wl_nil ?_
              refine ce_then ?_
              refine cw_false rfl ?_
              refine cw_skip ?_
              refine ce_then ?_
              refine cw_seq ?_
              refine cw_seq ?_
              refine cw_region ?_
              refine wl_v (ov_move rfl) rfl rfl rfl ?_
              refine wl_v (ov_move rfl) rfl rfl rfl ?_
              refine wl_if (ov_neq rfl rfl) rfl rfl rfl (fun c53 => ?_) (fun c53 => ?_)
              ·
                first | (exfalso; omega) | exact absurd rfl c53 | exact absurd (by simp) c53 | (exfalso; simp at c53; omega) | exact absurd ⟨rfl, rfl⟩ c53
              ·
                refine wl_nil ?_
                refine ce_then ?_
                refine cw_false rfl ?_
                refine cw_skip ?_
                refine ce_then ?_
                refine cw_seq ?_
                refine cw_region ?_
                refine wl_v (ov_loadAgg (vs := [.int .i64 (N), .slice A (es.length) (c)]) tI37 (holds_blk (List.Mem.tail _ (List.Mem.tail _ (List.Mem.tail _ (List.Mem.tail _ (List.Mem.tail _ (List.Mem.tail _ (List.Mem.head _)))))))) rfl some_lit rfl rfl) rfl rfl rfl ?_
                refine wl_r (or_call (fv := []) (vs := [.agg #[.int .i64 (N), .slice A (es.length) (c)]]) (cs := []) en18 rfl rfl (call_x1 (fun w hw => toGraph_c w N A es.length c es ((holds_old oA) w hw) rfl lA (by first | assumption | omega | (simp; omega))))) rfl rfl (kt1p rfl (fun g_55 h_55 => ?_))
                refine wl_r (or_call (fv := []) (vs := [.agg #[.int .i64 (N), .slice (some ⟨g_55, 0, none⟩) (es.length) (es.length)]]) (cs := []) en10 rfl rfl (call_x3 (fun w hw => BarI_c w N (some ⟨g_55, 0, none⟩) es.length es.length es ((holds_row (List.Mem.head _)) w hw) rfl (Nat.le_refl _) (by first | assumption | omega | (simp; omega)) (by first | assumption | omega | (simp; omega))))) rfl rfl (kt3p rfl (fun A2_56 k2_56 c2_56 h_56 => ?_))
                refine wl_v (ov_assign rfl) rfl rfl rfl ?_
                refine wl_nil ?_
                refine ce_then ?_
                refine cw_seq ?_
                refine cw_seq ?_
                refine cw_region ?_
                refine wl_v (ov_move rfl) rfl rfl rfl ?_
                refine wl_v (ov_move rfl) rfl rfl rfl ?_
                refine wl_r (or_call (fv := []) (vs := [.slice A2_56 ((barV N es).length) (k2_56), .slice A2_18 ((barV N es).length) (k2_18)]) (cs := []) en19 rfl rfl (call_v (fun w hw => eqIntS_c w A2_56 ((barV N es).length) k2_56 (barV N es) A2_18 ((barV N es).length) k2_18 (barV N es) ((holds_row (List.Mem.head _)) w hw) rfl h_56 ((holds_pick (List.Mem.tail _ (List.Mem.tail _ (List.Mem.tail _ (List.Mem.tail _ (List.Mem.tail _ (List.Mem.tail _ (List.Mem.head _))))))) h_18.2) w hw) rfl h_18.1 (by first | assumption | omega | (simp; omega))))) rfl rfl (kt_if rfl (fun c59 => ?_) (fun c59 => ?_))
                ·
                  refine wl_v (ov_not rfl) rfl rfl rfl ?_
                  refine wl_nil ?_
                  refine ce_then ?_
                  refine cw_false rfl ?_
                  refine cw_skip ?_
                  refine ce_then ?_
                  refine cw_seq ?_
                  refine cw_region ?_
                  refine wl_v (ov_assign rfl) rfl rfl rfl ?_
                  refine wl_nil ?_
                  refine ce_then ?_
                  refine cw_seq ?_
                  refine cw_region ?_
                  refine wl_v (ov_move rfl) rfl rfl rfl ?_
                  refine wl_v (ov_move rfl) rfl rfl rfl ?_
                  refine wl_r (or_call (fv := []) (vs := [.slice A2_22 ((barV N es).length) (k2_22), .int .i64 (1)]) (cs := []) en23 rfl rfl (call_v (fun w hw => heldIntS_c w A2_22 ((barV N es).length) k2_22 (marks 1 ((barV N es).length)) 1 ((holds_row (List.Mem.tail _ (List.Mem.tail _ (List.Mem.head _)))) w hw) (marks_length _ _) h_22 (by rw [marks_length]; omega) (by first | assumption | omega | (simp; omega))))) rfl rfl (kt0 rfl ?_)
                  refine wl_v (ov_assign rfl) rfl rfl rfl ?_
                  refine wl_nil ?_
                  refine ce_then ?_
                  refine cw_seq ?_
                  refine cw_seq ?_
                  refine cw_region ?_
                  refine wl_v (ov_move rfl) rfl rfl rfl ?_
                  refine wl_if (ov_lss rfl rfl) rfl rfl rfl (fun c65 => ?_) (fun c65 => ?_)
                  ·
                    first | (exfalso; omega) | exact absurd rfl c65 | exact absurd (by simp) c65 | (exfalso; simp at c65; omega) | exact absurd ⟨rfl, rfl⟩ c65
                  ·
                    refine wl_nil ?_
                    refine ce_then ?_
                    refine cw_false rfl ?_
                    refine cw_skip ?_
                    refine ce_then ?_
                    refine cw_seq ?_
                    refine cw_seq ?_
                    refine cw_region ?_
                    refine wl_v (ov_move rfl) rfl rfl rfl ?_
                    refine wl_v (ov_move rfl) rfl rfl rfl ?_
                    refine wl_if (ov_neq rfl rfl) rfl rfl rfl (fun c68 => ?_) (fun c68 => ?_)
                    ·
                      first | (exfalso; omega) | exact absurd rfl c68 | exact absurd (by simp) c68 | (exfalso; simp at c68; omega) | exact absurd ⟨rfl, rfl⟩ c68
                    ·
                      refine wl_nil ?_
                      refine ce_then ?_
                      refine cw_false rfl ?_
                      refine cw_skip ?_
                      refine ce_then ?_
                      refine cw_seq ?_
                      refine cw_region ?_
                      refine wl_v (ov_assign rfl) rfl rfl rfl ?_
                      refine wl_nil ?_
                      refine ce_then ?_
                      refine cw_ret ?_
                      refine ce_results (v := .bool true) (res1 rfl (rv_t rfl)) (fun w' hw => ?_)
                      exact ⟨rfl, (Keep.nil.ss hw).to_new⟩
                ·
                  first | (exfalso; omega) | exact absurd rfl c59 | exact absurd (by simp) c59 | (exfalso; simp at c59; omega) | exact absurd ⟨rfl, rfl⟩ c59
          ·
            first | (exfalso; omega) | exact absurd rfl c40 | exact absurd (by simp) c40 | (exfalso; simp at c40; omega) | exact absurd ⟨rfl, rfl⟩ c40
      ·
        first | (exfalso; omega) | exact absurd rfl c30 | exact absurd (by simp) c30 | (exfalso; simp at c30; omega) | exact absurd ⟨rfl, rfl⟩ c30
    ·
      first | (exfalso; omega) | exact absurd rfl c25 | exact absurd (by simp) c25 | (exfalso; simp at c25; omega) | exact absurd ⟨rfl, rfl⟩ c25
end Go.Proofs.Ythbfgkeoojghoaa.LFnExactBarrierOf
