/- Walks of functions of the given program: each returns what its Lean function says and leaves the memory that was there as it was. Conditions: those of each theorem. -/
import Derived.Test.YtlgkooeflgmcaabSz
import Derived.Test.YtlgkooeflgmcaabProg
import Derived.Test.YtlgkooeflgmcaabPl
import Derived.Test.YtlgkooeflgmcaabPo
import Derived.Test.YtlgkooeflgmcaabPd
import Derived.Test.YtlgkooeflgmcaabPe
import Derived.Test.YtlgkooeflgmcaabPh
import Derived.Test.YtlgkooeflgmcaabT
import Derived.Test.YtlgkooeflgmcaabW2
import Derived.Test.YtlgkooeflgmcaabW5
import Derived.Test.YtlgkooeflgmcaabW14
import Derived.KernelRfl
namespace Go.Proofs.Ytlgkooeflgmcaab.LFnExactOddParts
open Go.Sx Go.RowKit Go.Proofs.Ytlgkooeflgmcaab.T Go.Proofs.Ytlgkooeflgmcaab.W2 Go.Proofs.Ytlgkooeflgmcaab.W5 Go.Proofs.Ytlgkooeflgmcaab.W14
open Go.Plain
set_option linter.unusedVariables false
set_option maxRecDepth 100000 in
theorem FnExactOddParts_c (w : World) (N : Int) (A : Option Addr) (n : Nat) (c : Nat) (es : List (Int × Int)) (A1 : Option Addr) (n1 : Nat) (c1 : Nat) (ss : List (Int)) (hA : At w A (cells fE es)) (eA : es.length = n) (lA : n ≤ c) (hA1 : At w A1 (cells fI ss)) (eA1 : ss.length = n1) (lA1 : n1 ≤ c1) (hN : -9223372036854775808 ≤ N ∧ N ≤ 9223372036854775807) (hn : n ≤ 9223372036854775807) : Calls Try.prog 3 #[.agg #[.int .i64 (N), .slice A (n) (c)], .slice A1 (n1) (c1)] w (Ret fun rv w' => rv = .bool true ∧ New w w' []) := by
  have oA := hA.atB
  subst eA
  have oA1 := hA1.atB
  subst eA1
  refine fn_enter (args := [.agg #[.int .i64 (N), .slice A (es.length) (c)], .slice A1 (ss.length) (c1)]) Try.func3 rfl Try.ntmps3 rfl (SS.start w) ?_
  refine cw_seq ?_
  refine cw_region ?_
  refine wl_r (or_box rfl rfl) rfl rfl (kt1 rfl (fun g2 => ?_))
  refine wl_v (ov_assign rfl) rfl rfl rfl ?_
  refine wl_nil ?_
  refine ce_then ?_
  refine cw_seq ?_
  refine cw_seq ?_
  refine cw_region ?_
  refine wl_v (ov_move rfl) rfl rfl rfl ?_
  refine wl_v (ov_len (sliceI_spec sI25) rfl) rfl rfl rfl ?_
  refine wl_if (ov_gtr rfl rfl) rfl rfl rfl (fun c12 => ?_) (fun c12 => ?_)
  ·
    refine wl_nil ?_
    refine ce_then ?_
    refine cw_true rfl ?_
    refine cw_seq ?_
    refine cw_region ?_
    refine wl_v (ov_assign rfl) rfl rfl rfl ?_
    refine wl_nil ?_
    refine ce_then ?_
    refine cw_ret ?_
    refine ce_then_ret ?_
    refine ce_results (v := .bool true) (res1 rfl (rv_t rfl)) (fun w' hw => ?_)
    exact ⟨rfl, (Keep.nil.ss hw).to_new⟩
  ·
    refine wl_nil ?_
    refine ce_then ?_
    refine cw_false rfl ?_
    refine cw_skip ?_
    refine ce_then ?_
    refine cw_seq ?_
    refine cw_region ?_
    refine wl_v (ov_assign rfl) rfl rfl rfl ?_
    refine wl_nil ?_
    refine ce_then ?_
    refine cw_seq ?_
    refine cw_region ?_
    refine wl_v (ov_loadAgg (vs := [.int .i64 (N), .slice A (es.length) (c)]) tI24 (holds_blk (List.Mem.head _)) rfl some_lit rfl rfl) rfl rfl rfl ?_
    refine wl_v (ov_move rfl) rfl rfl rfl ?_
    refine wl_r (or_call (fv := []) (vs := [.agg #[.int .i64 (N), .slice A (es.length) (c)], .int .i64 (1048576)]) (cs := []) en9 rfl rfl (call_v (fun w hw => szGraph_c w N A es.length c es 1048576 ((holds_old oA) w hw) rfl lA (by first | assumption | omega | (simp; omega))))) rfl rfl (kt0 rfl ?_)
    refine wl_v (ov_assign rfl) rfl rfl rfl ?_
    refine wl_nil ?_
    refine ce_then ?_
    refine cw_seq ?_
    refine cw_seq ?_
    refine cw_region ?_
    refine wl_v (ov_move rfl) rfl rfl rfl ?_
    refine wl_if (ov_lss rfl rfl) rfl rfl rfl (fun c17 => ?_) (fun c17 => ?_)
    ·
      refine wl_nil ?_
      refine ce_then ?_
      refine cw_true rfl ?_
      refine cw_seq ?_
      refine cw_region ?_
      refine wl_v (ov_assign rfl) rfl rfl rfl ?_
      refine wl_nil ?_
      refine ce_then ?_
      refine cw_ret ?_
      refine ce_then_ret ?_
      refine ce_results (v := .bool true) (res1 rfl (rv_t rfl)) (fun w' hw => ?_)
      exact ⟨rfl, (Keep.nil.ss hw).to_new⟩
    ·
      have hsz17 : es.length ≤ 1048576 := by split at c17 <;> omega
      refine wl_nil ?_
      refine ce_then ?_
      refine cw_false rfl ?_
      refine cw_skip ?_
      refine ce_then ?_
      refine cw_seq ?_
      refine cw_region ?_
      refine wl_v (ov_loadAgg (vs := [.int .i64 (N), .slice A (es.length) (c)]) tI24 (holds_blk (List.Mem.head _)) rfl some_lit rfl rfl) rfl rfl rfl ?_
      refine wl_r (or_call (fv := []) (vs := [.agg #[.int .i64 (N), .slice A (es.length) (c)]]) (cs := []) en11 rfl rfl (call_x1 (fun w hw => toGraph_c w N A es.length c es ((holds_old oA) w hw) rfl lA (by first | assumption | omega | (simp; omega))))) rfl rfl (kt1p rfl (fun g_19 h_19 => ?_))
      refine wl_v (ov_move rfl) rfl rfl rfl ?_
      refine wl_r (or_call (fv := []) (vs := [.slice A1 (ss.length) (c1)]) (cs := []) en12 rfl rfl (call_x1 (fun w hw => toIntS_c w A1 ss.length c1 ss ((holds_old oA1) w hw) rfl lA1 (by first | assumption | omega | (simp; omega))))) rfl rfl (kt1p rfl (fun g_21 h_21 => ?_))
      refine wl_r (or_call (fv := []) (vs := [.agg #[.int .i64 (N), .slice (some ⟨g_19, 0, none⟩) (es.length) (es.length)], .slice (some ⟨g_21, 0, none⟩) (ss.length) (ss.length)]) (cs := []) en10 rfl rfl (call_v (fun w hw => OddPartsS_c w N (some ⟨g_19, 0, none⟩) es.length es.length es (some ⟨g_21, 0, none⟩) ss.length ss.length ss ((holds_row (List.Mem.tail _ (List.Mem.head _))) w hw) rfl (Nat.le_refl _) ((holds_row (List.Mem.head _)) w hw) rfl (Nat.le_refl _) (by first | assumption | omega | (simp; omega))))) rfl rfl (kt0 rfl ?_)
      refine wl_v (ov_assign rfl) rfl rfl rfl ?_
      refine wl_nil ?_
      refine ce_then ?_
      refine cw_seq ?_
      refine cw_region ?_
      refine wl_v (ov_loadAgg (vs := [.int .i64 (N), .slice A (es.length) (c)]) tI24 (holds_blk (List.Mem.tail _ (List.Mem.tail _ (List.Mem.head _)))) rfl some_lit rfl rfl) rfl rfl rfl ?_
      refine wl_r (or_call (fv := []) (vs := [.agg #[.int .i64 (N), .slice A (es.length) (c)]]) (cs := []) en11 rfl rfl (call_x1 (fun w hw => toGraph_c w N A es.length c es ((holds_old oA) w hw) rfl lA (by first | assumption | omega | (simp; omega))))) rfl rfl (kt1p rfl (fun g_24 h_24 => ?_))
      refine wl_r (or_alloc tI30 rfl) rfl rfl (kt1 rfl (fun g7 => ?_))
      refine wl_r0 (or_store_blk (vs := [.int .i64 (N), .slice (some ⟨g_24, 0, none⟩) (es.length) (es.length)]) (cs' := [.int .i64 (N), .slice (some ⟨g_24, 0, none⟩) (es.length) (es.length)]) (.head) tI30 rfl rfl rfl rfl (Nat.le_of_ble_eq_true rfl) rfl) rfl rfl (kn0 ?_)
      refine wl_nil ?_
      refine ce_then ?_
      refine cw_seq ?_
      refine cw_region ?_
      refine wl_v (ov_move rfl) rfl rfl rfl ?_
      refine wl_r (or_call (fv := []) (vs := [.slice A1 (ss.length) (c1)]) (cs := []) en12 rfl rfl (call_x1 (fun w hw => toIntS_c w A1 ss.length c1 ss ((holds_old oA1) w hw) rfl lA1 (by first | assumption | omega | (simp; omega))))) rfl rfl (kt1p rfl (fun g_26 h_26 => ?_))
      refine wl_v (ov_assign rfl) rfl rfl rfl ?_
      refine wl_nil ?_
      refine ce_then ?_
      refine cw_seq ?_
      refine cw_region ?_
      refine wl_v (ov_loadAgg (vs := [.int .i64 (N), .slice (some ⟨g_24, 0, none⟩) (es.length) (es.length)]) tI30 (holds_blk (List.Mem.tail _ (List.Mem.head _))) rfl some_lit rfl rfl) rfl rfl rfl ?_
      refine wl_v (ov_move rfl) rfl rfl rfl ?_
      refine wl_r (or_call (fv := []) (vs := [.agg #[.int .i64 (N), .slice (some ⟨g_24, 0, none⟩) (es.length) (es.length)], .slice (some ⟨g_26, 0, none⟩) (ss.length) (ss.length)]) (cs := []) en13 rfl rfl (call_v (fun w hw => OddPartsI_c w N (some ⟨g_24, 0, none⟩) es.length es.length es (some ⟨g_26, 0, none⟩) ss.length ss.length ss ((holds_row (List.Mem.tail _ (List.Mem.tail _ (List.Mem.head _)))) w hw) rfl (Nat.le_refl _) ((holds_row (List.Mem.head _)) w hw) rfl (Nat.le_refl _) (by first | assumption | omega | (simp; omega)) (by first | assumption | omega | (simp; omega))))) rfl rfl (kt0 rfl ?_)
      refine wl_v (ov_assign rfl) rfl rfl rfl ?_
      refine wl_nil ?_
      refine ce_then ?_
      refine cw_seq ?_
      refine cw_seq ?_
      refine cw_region ?_
      refine wl_v (ov_move rfl) rfl rfl rfl ?_
      refine wl_v (ov_move rfl) rfl rfl rfl ?_
      refine wl_if (ov_neq rfl rfl) rfl rfl rfl (fun c32 => ?_) (fun c32 => ?_)
      ·
        first | (exfalso; omega) | exact absurd rfl c32 | exact absurd (by simp) c32 | (exfalso; simp at c32; omega) | exact absurd ⟨rfl, rfl⟩ c32
      ·
        refine wl_nil ?_
        refine ce_then ?_
        refine cw_false rfl ?_
        refine cw_skip ?_
        refine ce_then ?_
        refine cw_seq ?_
        refine cw_seq ?_
        refine cw_draw mixO [] (.cons (.head) (.cons (.head) (.cons (.head) (.cons (.head) (.cons (.head) (.cons (.head) (.nil))))))) rfl ?_
        refine wg_take (i := 0) rfl (ov_loadAgg (vs := [.int .i64 (N), .slice (some ⟨g_24, 0, none⟩) (es.length) (es.length)]) tI30 (holds_blk (List.Mem.tail _ (List.Mem.head _))) rfl some_lit rfl rfl) rfl rfl rfl (by kernel_rfl) (by kernel_rfl) (by kernel_rfl) (by kernel_rfl) ?_
        refine wg_take (i := 1) rfl (ov_loadAgg (vs := [.int .i64 (N), .slice A (es.length) (c)]) tI24 (holds_blk (List.Mem.tail _ (List.Mem.tail _ (List.Mem.tail _ (List.Mem.tail _ (List.Mem.tail _ (List.Mem.head _))))))) rfl some_lit rfl rfl) rfl rfl rfl (by kernel_rfl) (by kernel_rfl) (by kernel_rfl) (by kernel_rfl) ?_
        refine wg_one (i := 2) (by kernel_rfl) ?_
        refine go_r rfl rfl rfl rfl (or_call (fv := []) (vs := [.agg #[.int .i64 (N), .slice A (es.length) (c)]]) (cs := []) en11 rfl rfl (call_x1 (fun w hw => toGraph_c w N A es.length c es ((holds_old oA) w hw) rfl lA (by first | assumption | omega | (simp; omega))))) (kt1p rfl (fun g_35 h_35 => ?_))
        refine gk (.cons (.tail .head) (.cons (.tail .head) (.cons (.tail .head) (.cons (.tail .head) (.cons (.tail .head) (.cons (.tail .head) (.nil))))))) ?_
        refine wg_one (i := 3) (by kernel_rfl) ?_
        refine go_r rfl rfl rfl rfl (or_call (fv := []) (vs := [.agg #[.int .i64 (N), .slice (some ⟨g_24, 0, none⟩) (es.length) (es.length)], .agg #[.int .i64 (N), .slice (some ⟨g_35, 0, none⟩) (es.length) (es.length)]]) (cs := []) en14 rfl rfl (call_v (fun w hw => eqGraph_c w N (some ⟨g_24, 0, none⟩) es.length es.length es N (some ⟨g_35, 0, none⟩) es.length es.length es ((holds_row (List.Mem.tail _ (List.Mem.tail _ (List.Mem.tail _ (List.Mem.head _))))) w hw) rfl (Nat.le_refl _) ((holds_row (List.Mem.head _)) w hw) rfl (Nat.le_refl _) (by first | assumption | omega | (simp; omega))))) (kt_if rfl (fun c36 => ?_) (fun c36 => ?_))
        ·
          refine gk (.cons (.tail .head) (.cons (.tail .head) (.cons (.tail .head) (.cons (.tail .head) (.cons (.tail .head) (.cons (.tail .head) (.nil))))))) ?_
          refine wg_takep (i := 4) rfl (ov_not rfl) rfl rfl rfl (by kernel_rfl) (by kernel_rfl) (by kernel_rfl) rfl ?_
          refine wg_done (by kernel_rfl) ?_
          refine ce_then ?_
          refine cw_false rfl ?_
          refine cw_skip ?_
          refine ce_then ?_
          refine cw_seq ?_
          refine cw_seq ?_
          refine cw_region ?_
          refine wl_v (ov_move rfl) rfl rfl rfl ?_
          refine wl_v (ov_move rfl) rfl rfl rfl ?_
          refine wl_r (or_call (fv := []) (vs := [.slice A1 (ss.length) (c1)]) (cs := []) en12 rfl rfl (call_x1 (fun w hw => toIntS_c w A1 ss.length c1 ss ((holds_old oA1) w hw) rfl lA1 (by first | assumption | omega | (simp; omega))))) rfl rfl (kt1p rfl (fun g_40 h_40 => ?_))
          refine wl_r (or_call (fv := []) (vs := [.slice (some ⟨g_26, 0, none⟩) (ss.length) (ss.length), .slice (some ⟨g_40, 0, none⟩) (ss.length) (ss.length)]) (cs := []) en15 rfl rfl (call_v (fun w hw => eqIntS_c w (some ⟨g_26, 0, none⟩) ss.length ss.length ss (some ⟨g_40, 0, none⟩) ss.length ss.length ss ((holds_row (List.Mem.tail _ (List.Mem.tail _ (List.Mem.head _)))) w hw) rfl (Nat.le_refl _) ((holds_row (List.Mem.head _)) w hw) rfl (Nat.le_refl _) (by first | assumption | omega | (simp; omega))))) rfl rfl (kt_if rfl (fun c41 => ?_) (fun c41 => ?_))
          ·
            refine wl_v (ov_not rfl) rfl rfl rfl ?_
            refine wl_nil ?_
            refine ce_then ?_
            refine cw_false rfl ?_
            refine cw_skip ?_
            refine ce_then ?_
            refine cw_seq ?_
            refine cw_region ?_
            refine wl_v (ov_assign rfl) rfl rfl rfl ?_
            refine wl_nil ?_
            refine ce_then ?_
            refine cw_ret ?_
            refine ce_results (v := .bool true) (res1 rfl (rv_t rfl)) (fun w' hw => ?_)
            exact ⟨rfl, (Keep.nil.ss hw).to_new⟩
          ·
            first | (exfalso; omega) | exact absurd rfl c41 | exact absurd (by simp) c41 | (exfalso; simp at c41; omega) | exact absurd ⟨rfl, rfl⟩ c41
        ·
          first | (exfalso; omega) | exact absurd rfl c36 | exact absurd (by simp) c36 | (exfalso; simp at c36; omega) | exact absurd ⟨rfl, rfl⟩ c36
end Go.Proofs.Ytlgkooeflgmcaab.LFnExactOddParts
