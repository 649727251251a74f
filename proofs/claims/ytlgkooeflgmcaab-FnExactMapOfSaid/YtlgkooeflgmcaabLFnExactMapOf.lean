/- Walks of functions of the given program: each returns what its Lean function says and leaves the memory that was there as it was. Conditions: those of each theorem. -/
import Derived.Test.YtlgkooeflgmcaabSz
import Derived.Test.YtlgkooeflgmcaabProg
import Derived.Test.YtlgkooeflgmcaabPl
import Derived.Test.YtlgkooeflgmcaabPo
import Derived.Test.YtlgkooeflgmcaabPd
import Derived.Test.YtlgkooeflgmcaabPe
import Derived.Test.YtlgkooeflgmcaabPh
import Derived.Test.YtlgkooeflgmcaabPm
import Derived.Test.YtlgkooeflgmcaabT
import Derived.Test.YtlgkooeflgmcaabW2
import Derived.Test.YtlgkooeflgmcaabW5
import Derived.Test.YtlgkooeflgmcaabW15
import Derived.KernelRfl
namespace Go.Proofs.Ytlgkooeflgmcaab.LFnExactMapOf
open Go.Sx Go.RowKit Go.Proofs.Ytlgkooeflgmcaab.T Go.Proofs.Ytlgkooeflgmcaab.W2 Go.Proofs.Ytlgkooeflgmcaab.W5 Go.Proofs.Ytlgkooeflgmcaab.W15
open Go.Plain
set_option linter.unusedVariables false
set_option maxRecDepth 100000 in
theorem FnExactMapOf_c (w : World) (N : Int) (A : Option Addr) (n : Nat) (c : Nat) (es : List (Int × Int)) (M : Int) (A2 : Option Addr) (n2 : Nat) (c2 : Nat) (fs : List (Int × Int)) (hA : At w A (cells fE es)) (eA : es.length = n) (lA : n ≤ c) (hA2 : At w A2 (cells fE fs)) (eA2 : fs.length = n2) (lA2 : n2 ≤ c2) (hN : -9223372036854775808 ≤ N ∧ N ≤ 9223372036854775807) (hn : n ≤ 9223372036854775807) (hM : -9223372036854775808 ≤ M ∧ M ≤ 9223372036854775807) (hn2 : n2 ≤ 9223372036854775807) : Calls Try.prog 4 #[.agg #[.int .i64 (N), .slice A (n) (c)], .agg #[.int .i64 (M), .slice A2 (n2) (c2)]] w (Ret fun rv w' => rv = .bool true ∧ New w w' []) := by
  have oA := hA.atB
  subst eA
  have oA2 := hA2.atB
  subst eA2
  have hll : (mapV N es M fs).1.length ≤ 6 := mapV_len N es M fs
  refine fn_enter (args := [.agg #[.int .i64 (N), .slice A (es.length) (c)], .agg #[.int .i64 (M), .slice A2 (fs.length) (c2)]]) Try.func4 rfl Try.ntmps4 rfl (SS.start w) ?_
  refine cw_seq ?_
  refine cw_region ?_
  refine wl_r (or_box rfl rfl) rfl rfl (kt1 rfl (fun g2 => ?_))
  refine wl_r (or_box rfl rfl) rfl rfl (kt1 rfl (fun g3 => ?_))
  refine wl_v (ov_assign rfl) rfl rfl rfl ?_
  refine wl_nil ?_
  refine ce_then ?_
  refine cw_seq ?_
  refine cw_region ?_
  refine wl_v (ov_assign rfl) rfl rfl rfl ?_
  refine wl_nil ?_
  refine ce_then ?_
  refine cw_seq ?_
  refine cw_region ?_
  refine wl_v (ov_loadAgg (vs := [.int .i64 (N), .slice A (es.length) (c)]) tI24 (holds_blk (List.Mem.tail _ (List.Mem.head _))) rfl some_lit rfl rfl) rfl rfl rfl ?_
  refine wl_v (ov_move rfl) rfl rfl rfl ?_
  refine wl_r (or_call (fv := []) (vs := [.agg #[.int .i64 (N), .slice A (es.length) (c)], .int .i64 (1048576)]) (cs := []) en9 rfl rfl (call_v (fun w hw => szGraph_c w N A es.length c es 1048576 ((holds_old oA) w hw) rfl lA (by first | assumption | omega | (simp; omega))))) rfl rfl (kt0 rfl ?_)
  refine wl_v (ov_assign rfl) rfl rfl rfl ?_
  refine wl_nil ?_
  refine ce_then ?_
  refine cw_seq ?_
  refine cw_seq ?_
  refine cw_region ?_
  refine wl_v (ov_move rfl) rfl rfl rfl ?_
  refine wl_if (ov_lss rfl rfl) rfl rfl rfl (fun c21 => ?_) (fun c21 => ?_)
  ·
    refine wl_nil ?_
    refine ce_then ?_
    refine cw_true rfl ?_
    refine cw_seq ?_
    refine cw_region ?_
    refine wl_v (ov_assign rfl) rfl rfl rfl ?_
    refine wl_nil ?_
    refine ce_then ?_
    refine cw_ret ?_
    refine ce_then_ret ?_
    refine ce_results (v := .bool true) (res1 rfl (rv_t rfl)) (fun w' hw => ?_)
    exact ⟨rfl, (Keep.nil.ss hw).to_new⟩
  ·
    have hsz21 : es.length ≤ 1048576 := by split at c21 <;> omega
    have hl21 : (if 1048576 - ((es.length : Nat) : Int) < 0 then -1 else 1048576 - ((es.length : Nat) : Int)) = 1048576 - ((es.length : Nat) : Int) := if_neg (by omega)
    refine ct_keep (L' := [(0, .agg #[.int .i64 (N), .slice A (es.length) (c)]), (1, .agg #[.int .i64 (M), .slice A2 (fs.length) (c2)]), (2, elp (some ⟨g2, 0, none⟩) (0)), (3, elp (some ⟨g3, 0, none⟩) (0)), (4, .bool false), (5, .int .i64 (1048576 - ((es.length : Nat) : Int))), (17, .agg #[.int .i64 (N), .slice A (es.length) (c)]), (18, .int .i64 (1048576)), (19, .int .i64 (if 1048576 - (es.length : Int) < 0 then -1 else 1048576 - (es.length : Int))), (20, .int .i64 (if 1048576 - (es.length : Int) < 0 then -1 else 1048576 - (es.length : Int))), (21, .bool false)]) (.cons rfl (.cons rfl (.cons rfl (.cons rfl (.cons rfl (.cons (congrArg (fun z => some (Value.int .i64 z)) (show (if 1048576 - (es.length : Int) < 0 then -1 else 1048576 - (es.length : Int)) = (1048576 - ((es.length : Nat) : Int)) from hl21)) (.cons rfl (.cons rfl (.cons rfl (.cons rfl (.cons rfl (.nil)))))))))))) .refl ?_
    refine wl_nil ?_
    refine ce_then ?_
    refine cw_false rfl ?_
    refine cw_skip ?_
    refine ce_then ?_
    refine cw_seq ?_
    refine cw_region ?_
    refine wl_v (ov_loadAgg (vs := [.int .i64 (M), .slice A2 (fs.length) (c2)]) tI24 (holds_blk (List.Mem.head _)) rfl some_lit rfl rfl) rfl rfl rfl ?_
    refine wl_v (ov_move rfl) rfl rfl rfl ?_
    refine wl_r (or_call (fv := []) (vs := [.agg #[.int .i64 (M), .slice A2 (fs.length) (c2)], .int .i64 (1048576 - ((es.length : Nat) : Int))]) (cs := []) en9 rfl rfl (call_v (fun w hw => szGraph_c w M A2 fs.length c2 fs (1048576 - ((es.length : Nat) : Int)) ((holds_old oA2) w hw) rfl lA2 (by first | assumption | omega | (simp; omega))))) rfl rfl (kt0 rfl ?_)
    refine wl_v (ov_assign rfl) rfl rfl rfl ?_
    refine wl_nil ?_
    refine ce_then ?_
    refine cw_seq ?_
    refine cw_seq ?_
    refine cw_region ?_
    refine wl_v (ov_move rfl) rfl rfl rfl ?_
    refine wl_if (ov_lss rfl rfl) rfl rfl rfl (fun c26 => ?_) (fun c26 => ?_)
    ·
      refine wl_nil ?_
      refine ce_then ?_
      refine cw_true rfl ?_
      refine cw_seq ?_
      refine cw_region ?_
      refine wl_v (ov_assign rfl) rfl rfl rfl ?_
      refine wl_nil ?_
      refine ce_then ?_
      refine cw_ret ?_
      refine ce_then_ret ?_
      refine ce_results (v := .bool true) (res1 rfl (rv_t rfl)) (fun w' hw => ?_)
      exact ⟨rfl, (Keep.nil.ss hw).to_new⟩
    ·
      have hsz26 : fs.length ≤ 1048576 := by split at c26 <;> omega
      refine wl_nil ?_
      refine ce_then ?_
      refine cw_false rfl ?_
      refine cw_skip ?_
      refine ce_then ?_
      refine cw_seq ?_
      refine cw_draw mixO [] (.cons (.head) (.cons (.head) (.nil))) rfl ?_
      refine wg_take (i := 0) rfl (ov_loadAgg (vs := [.int .i64 (N), .slice A (es.length) (c)]) tI24 (holds_blk (List.Mem.tail _ (List.Mem.head _))) rfl some_lit rfl rfl) rfl rfl rfl (by kernel_rfl) (by kernel_rfl) (by kernel_rfl) (by kernel_rfl) ?_
      refine wg_take (i := 2) rfl (ov_loadAgg (vs := [.int .i64 (M), .slice A2 (fs.length) (c2)]) tI24 (holds_blk (List.Mem.head _)) rfl some_lit rfl rfl) rfl rfl rfl (by kernel_rfl) (by kernel_rfl) (by kernel_rfl) (by kernel_rfl) ?_
      refine wg_one (i := 1) (by kernel_rfl) ?_
      refine go_r rfl rfl rfl rfl (or_call (fv := []) (vs := [.agg #[.int .i64 (N), .slice A (es.length) (c)]]) (cs := []) en11 rfl rfl (call_x1 (fun w hw => toGraph_c w N A es.length c es ((holds_old oA) w hw) rfl lA (by first | assumption | omega | (simp; omega))))) (kt1p rfl (fun g_29 h_29 => ?_))
      refine gk (.cons (.tail .head) (.cons (.tail .head) (.nil))) ?_
      refine wg_one (i := 3) (by kernel_rfl) ?_
      refine go_r rfl rfl rfl rfl (or_call (fv := []) (vs := [.agg #[.int .i64 (M), .slice A2 (fs.length) (c2)]]) (cs := []) en11 rfl rfl (call_x1 (fun w hw => toGraph_c w M A2 fs.length c2 fs ((holds_old oA2) w hw) rfl lA2 (by first | assumption | omega | (simp; omega))))) (kt1p rfl (fun g_31 h_31 => ?_))
      refine gk (.cons (.tail (.tail .head)) (.cons (.tail (.tail .head)) (.nil))) ?_
      refine wg_one (i := 4) (by kernel_rfl) ?_
      refine go_r rfl rfl rfl rfl (or_call (fv := []) (vs := [.agg #[.int .i64 (N), .slice (some ⟨g_29, 0, none⟩) (es.length) (es.length)], .agg #[.int .i64 (M), .slice (some ⟨g_31, 0, none⟩) (fs.length) (fs.length)]]) (cs := []) en16 rfl rfl (call_x3 (fun w hw => MapOfS_c w N (some ⟨g_29, 0, none⟩) es.length es.length es M (some ⟨g_31, 0, none⟩) fs.length fs.length fs ((holds_row (List.Mem.tail _ (List.Mem.head _))) w hw) rfl (Nat.le_refl _) ((holds_row (List.Mem.head _)) w hw) rfl (Nat.le_refl _) (by first | assumption | omega | (simp; omega)) (by first | assumption | omega | (simp; omega))))) (kt3p rfl (fun A3_32 c3_32 c4_32 h_32 => ?_))
      refine gk (.cons (.tail (.tail (.tail .head))) (.cons (.tail (.tail (.tail .head))) (.nil))) ?_
      refine wg_takep (i := 5) rfl (ov_move rfl) rfl rfl rfl (by kernel_rfl) (by kernel_rfl) (by kernel_rfl) rfl ?_
      refine wg_takep (i := 6) rfl (ov_extract rfl rfl) rfl rfl rfl (by kernel_rfl) (by kernel_rfl) (by kernel_rfl) rfl ?_
      refine wg_takep (i := 7) rfl (ov_extract rfl rfl) rfl rfl rfl (by kernel_rfl) (by kernel_rfl) (by kernel_rfl) rfl ?_
      refine wg_takep (i := 8) rfl (ov_assign rfl) rfl rfl rfl (by kernel_rfl) (by kernel_rfl) (by kernel_rfl) rfl ?_
      refine wg_takep (i := 9) rfl (ov_assign rfl) rfl rfl rfl (by kernel_rfl) (by kernel_rfl) (by kernel_rfl) rfl ?_
      refine wg_done (by kernel_rfl) ?_
      refine ce_then ?_
      refine cw_seq ?_
      refine cw_region ?_
      refine wl_v (ov_loadAgg (vs := [.int .i64 (N), .slice A (es.length) (c)]) tI24 (holds_blk (List.Mem.tail _ (List.Mem.tail _ (List.Mem.tail _ (List.Mem.tail _ (List.Mem.head _)))))) rfl some_lit rfl rfl) rfl rfl rfl ?_
      refine wl_r (or_call (fv := []) (vs := [.agg #[.int .i64 (N), .slice A (es.length) (c)]]) (cs := []) en11 rfl rfl (call_x1 (fun w hw => toGraph_c w N A es.length c es ((holds_old oA) w hw) rfl lA (by first | assumption | omega | (simp; omega))))) rfl rfl (kt1p rfl (fun g_36 h_36 => ?_))
      refine wl_r (or_alloc tI30 rfl) rfl rfl (kt1 rfl (fun g8 => ?_))
      refine wl_r0 (or_store_blk (vs := [.int .i64 (N), .slice (some ⟨g_36, 0, none⟩) (es.length) (es.length)]) (cs' := [.int .i64 (N), .slice (some ⟨g_36, 0, none⟩) (es.length) (es.length)]) (.head) tI30 rfl rfl rfl rfl (Nat.le_of_ble_eq_true rfl) rfl) rfl rfl (kn0 ?_)
      refine wl_nil ?_
      refine ce_then ?_
      refine cw_seq ?_
      refine cw_region ?_
      refine wl_v (ov_loadAgg (vs := [.int .i64 (M), .slice A2 (fs.length) (c2)]) tI24 (holds_blk (List.Mem.tail _ (List.Mem.tail _ (List.Mem.tail _ (List.Mem.tail _ (List.Mem.tail _ (List.Mem.head _))))))) rfl some_lit rfl rfl) rfl rfl rfl ?_
      refine wl_r (or_call (fv := []) (vs := [.agg #[.int .i64 (M), .slice A2 (fs.length) (c2)]]) (cs := []) en11 rfl rfl (call_x1 (fun w hw => toGraph_c w M A2 fs.length c2 fs ((holds_old oA2) w hw) rfl lA2 (by first | assumption | omega | (simp; omega))))) rfl rfl (kt1p rfl (fun g_38 h_38 => ?_))
      refine wl_r (or_alloc tI30 rfl) rfl rfl (kt1 rfl (fun g9 => ?_))
      refine wl_r0 (or_store_blk (vs := [.int .i64 (M), .slice (some ⟨g_38, 0, none⟩) (fs.length) (fs.length)]) (cs' := [.int .i64 (M), .slice (some ⟨g_38, 0, none⟩) (fs.length) (fs.length)]) (.head) tI30 rfl rfl rfl rfl (Nat.le_of_ble_eq_true rfl) rfl) rfl rfl (kn0 ?_)
      refine wl_nil ?_
      refine ce_then ?_
      refine cw_seq ?_
      refine cw_region ?_
      refine wl_v (ov_loadAgg (vs := [.int .i64 (N), .slice (some ⟨g_36, 0, none⟩) (es.length) (es.length)]) tI30 (holds_blk (List.Mem.tail _ (List.Mem.tail _ (List.Mem.head _)))) rfl some_lit rfl rfl) rfl rfl rfl ?_
      refine wl_v (ov_loadAgg (vs := [.int .i64 (M), .slice (some ⟨g_38, 0, none⟩) (fs.length) (fs.length)]) tI30 (holds_blk (List.Mem.head _)) rfl some_lit rfl rfl) rfl rfl rfl ?_
      refine wl_r (or_call (fv := []) (vs := [.agg #[.int .i64 (N), .slice (some ⟨g_36, 0, none⟩) (es.length) (es.length)], .agg #[.int .i64 (M), .slice (some ⟨g_38, 0, none⟩) (fs.length) (fs.length)]]) (cs := []) en17 rfl rfl (call_x3 (fun w hw => MapOfI_c w N (some ⟨g_36, 0, none⟩) es.length es.length es M (some ⟨g_38, 0, none⟩) fs.length fs.length fs ((holds_row (List.Mem.tail _ (List.Mem.tail _ (List.Mem.tail _ (List.Mem.head _))))) w hw) rfl (Nat.le_refl _) ((holds_row (List.Mem.tail _ (List.Mem.head _))) w hw) rfl (Nat.le_refl _) (by first | assumption | omega | (simp; omega)) (by first | assumption | omega | (simp; omega))))) rfl rfl (kt3p rfl (fun A3_42 c3_42 c4_42 h_42 => ?_))
      refine wl_v (ov_move rfl) rfl rfl rfl ?_
      refine wl_v (ov_extract rfl rfl) rfl rfl rfl ?_
      refine wl_v (ov_extract rfl rfl) rfl rfl rfl ?_
      refine wl_v (ov_assign rfl) rfl rfl rfl ?_
      refine wl_v (ov_assign rfl) rfl rfl rfl ?_
      refine wl_nil ?_
      refine ce_then ?_
      refine cw_seq ?_
      refine cw_seq ?_
      refine cw_region ?_
      refine wl_v (ov_move rfl) rfl rfl rfl ?_
      refine wl_v (ov_move rfl) rfl rfl rfl ?_
      refine wl_r (or_call (fv := []) (vs := [.slice A3_42 ((mapV N es M fs).1.length) (c3_42), .slice A3_32 ((mapV N es M fs).1.length) (c3_32)]) (cs := []) en15 rfl rfl (call_v (fun w hw => eqIntS_c w A3_42 ((mapV N es M fs).1.length) c3_42 ((mapV N es M fs).1) A3_32 ((mapV N es M fs).1.length) c3_32 ((mapV N es M fs).1) ((holds_row (List.Mem.head _)) w hw) rfl h_42 ((holds_row (List.Mem.tail _ (List.Mem.tail _ (List.Mem.tail _ (List.Mem.tail _ (List.Mem.tail _ (List.Mem.head _))))))) w hw) rfl h_32 (by first | assumption | omega | (simp; omega))))) rfl rfl (kt_if rfl (fun c47 => ?_) (fun c47 => ?_))
      ·
        refine wl_v (ov_not rfl) rfl rfl rfl ?_
        refine wl_v (ov_move rfl) rfl rfl rfl ?_
        refine wl_go rfl rfl ?_
        refine wl_v (ov_move rfl) rfl rfl rfl ?_
        refine wl_go rfl rfl ?_
        refine wl_v (ov_move rfl) rfl rfl rfl ?_
        refine wl_go rfl rfl ?_
        refine wl_if (OpV.dec (ov_neqb uI4 rfl rfl)) rfl rfl rfl (fun c52 => ?_) (fun c52 => ?_)
        ·
          first | (exfalso; omega) | exact absurd rfl c52 | exact absurd (by simp) c52 | (exfalso; simp at c52; omega) | exact absurd ⟨rfl, rfl⟩ c52 | (simp at c52)
        ·
          refine wl_v (ov_pick_f rfl rfl) rfl rfl rfl ?_
          refine wl_nil ?_
          refine ce_then ?_
          refine cw_false rfl ?_
          refine cw_skip ?_
          refine ce_then ?_
          refine cw_seq ?_
          refine cw_seq ?_
          refine cw_draw mixO [] (.cons (.head) (.cons (.head) (.cons (.head) (.cons (.head) (.cons (.head) (.cons (.head) (.cons (.head) (.cons (.head) (.cons (.head) (.cons (.head) (.nil))))))))))) rfl ?_
          refine wg_take (i := 0) rfl (ov_loadAgg (vs := [.int .i64 (N), .slice (some ⟨g_36, 0, none⟩) (es.length) (es.length)]) tI30 (holds_blk (List.Mem.tail _ (List.Mem.tail _ (List.Mem.tail _ (List.Mem.head _))))) rfl some_lit rfl rfl) rfl rfl rfl (by kernel_rfl) (by kernel_rfl) (by kernel_rfl) (by kernel_rfl) ?_
          refine wg_take (i := 1) rfl (ov_loadAgg (vs := [.int .i64 (N), .slice A (es.length) (c)]) tI24 (holds_blk (List.Mem.tail _ (List.Mem.tail _ (List.Mem.tail _ (List.Mem.tail _ (List.Mem.tail _ (List.Mem.tail _ (List.Mem.tail _ (List.Mem.tail _ (List.Mem.tail _ (List.Mem.head _))))))))))) rfl some_lit rfl rfl) rfl rfl rfl (by kernel_rfl) (by kernel_rfl) (by kernel_rfl) (by kernel_rfl) ?_
          refine wg_one (i := 2) (by kernel_rfl) ?_
          refine go_r rfl rfl rfl rfl (or_call (fv := []) (vs := [.agg #[.int .i64 (N), .slice A (es.length) (c)]]) (cs := []) en11 rfl rfl (call_x1 (fun w hw => toGraph_c w N A es.length c es ((holds_old oA) w hw) rfl lA (by first | assumption | omega | (simp; omega))))) (kt1p rfl (fun g_56 h_56 => ?_))
          refine gk (.cons (.tail .head) (.cons (.tail .head) (.cons (.tail .head) (.cons (.tail .head) (.cons (.tail .head) (.cons (.tail .head) (.cons (.tail .head) (.cons (.tail .head) (.cons (.tail .head) (.cons (.tail .head) (.nil))))))))))) ?_
          refine wg_one (i := 3) (by kernel_rfl) ?_
          refine go_r rfl rfl rfl rfl (or_call (fv := []) (vs := [.agg #[.int .i64 (N), .slice (some ⟨g_36, 0, none⟩) (es.length) (es.length)], .agg #[.int .i64 (N), .slice (some ⟨g_56, 0, none⟩) (es.length) (es.length)]]) (cs := []) en14 rfl rfl (call_v (fun w hw => eqGraph_c w N (some ⟨g_36, 0, none⟩) es.length es.length es N (some ⟨g_56, 0, none⟩) es.length es.length es ((holds_row (List.Mem.tail _ (List.Mem.tail _ (List.Mem.tail _ (List.Mem.tail _ (List.Mem.tail _ (List.Mem.head _))))))) w hw) rfl (Nat.le_refl _) ((holds_row (List.Mem.head _)) w hw) rfl (Nat.le_refl _) (by first | assumption | omega | (simp; omega))))) (kt_if rfl (fun c57 => ?_) (fun c57 => ?_))
          ·
            refine gk (.cons (.tail .head) (.cons (.tail .head) (.cons (.tail .head) (.cons (.tail .head) (.cons (.tail .head) (.cons (.tail .head) (.cons (.tail .head) (.cons (.tail .head) (.cons (.tail .head) (.cons (.tail .head) (.nil))))))))))) ?_
            refine wg_takep (i := 4) rfl (ov_not rfl) rfl rfl rfl (by kernel_rfl) (by kernel_rfl) (by kernel_rfl) rfl ?_
            refine wg_done (by kernel_rfl) ?_
            refine ce_then ?_
            refine cw_false rfl ?_
            refine cw_skip ?_
            refine ce_then ?_
            refine cw_seq ?_
            refine cw_seq ?_
            refine cw_draw mixO [] (.cons (.head) (.cons (.head) (.cons (.head) (.cons (.head) (.cons (.head) (.cons (.head) (.cons (.head) (.cons (.head) (.cons (.head) (.cons (.head) (.cons (.head) (.nil)))))))))))) rfl ?_
            refine wg_take (i := 0) rfl (ov_loadAgg (vs := [.int .i64 (M), .slice (some ⟨g_38, 0, none⟩) (fs.length) (fs.length)]) tI30 (holds_blk (List.Mem.tail _ (List.Mem.tail _ (List.Mem.head _)))) rfl some_lit rfl rfl) rfl rfl rfl (by kernel_rfl) (by kernel_rfl) (by kernel_rfl) (by kernel_rfl) ?_
            refine wg_take (i := 1) rfl (ov_loadAgg (vs := [.int .i64 (M), .slice A2 (fs.length) (c2)]) tI24 (holds_blk (List.Mem.tail _ (List.Mem.tail _ (List.Mem.tail _ (List.Mem.tail _ (List.Mem.tail _ (List.Mem.tail _ (List.Mem.tail _ (List.Mem.tail _ (List.Mem.tail _ (List.Mem.head _))))))))))) rfl some_lit rfl rfl) rfl rfl rfl (by kernel_rfl) (by kernel_rfl) (by kernel_rfl) (by kernel_rfl) ?_
            refine wg_one (i := 2) (by kernel_rfl) ?_
            refine go_r rfl rfl rfl rfl (or_call (fv := []) (vs := [.agg #[.int .i64 (M), .slice A2 (fs.length) (c2)]]) (cs := []) en11 rfl rfl (call_x1 (fun w hw => toGraph_c w M A2 fs.length c2 fs ((holds_old oA2) w hw) rfl lA2 (by first | assumption | omega | (simp; omega))))) (kt1p rfl (fun g_61 h_61 => ?_))
            refine gk (.cons (.tail .head) (.cons (.tail .head) (.cons (.tail .head) (.cons (.tail .head) (.cons (.tail .head) (.cons (.tail .head) (.cons (.tail .head) (.cons (.tail .head) (.cons (.tail .head) (.cons (.tail .head) (.cons (.tail .head) (.nil)))))))))))) ?_
            refine wg_one (i := 3) (by kernel_rfl) ?_
            refine go_r rfl rfl rfl rfl (or_call (fv := []) (vs := [.agg #[.int .i64 (M), .slice (some ⟨g_38, 0, none⟩) (fs.length) (fs.length)], .agg #[.int .i64 (M), .slice (some ⟨g_61, 0, none⟩) (fs.length) (fs.length)]]) (cs := []) en14 rfl rfl (call_v (fun w hw => eqGraph_c w M (some ⟨g_38, 0, none⟩) fs.length fs.length fs M (some ⟨g_61, 0, none⟩) fs.length fs.length fs ((holds_row (List.Mem.tail _ (List.Mem.tail _ (List.Mem.tail _ (List.Mem.tail _ (List.Mem.head _)))))) w hw) rfl (Nat.le_refl _) ((holds_row (List.Mem.head _)) w hw) rfl (Nat.le_refl _) (by first | assumption | omega | (simp; omega))))) (kt_if rfl (fun c62 => ?_) (fun c62 => ?_))
            ·
              refine gk (.cons (.tail .head) (.cons (.tail .head) (.cons (.tail .head) (.cons (.tail .head) (.cons (.tail .head) (.cons (.tail .head) (.cons (.tail .head) (.cons (.tail .head) (.cons (.tail .head) (.cons (.tail .head) (.cons (.tail .head) (.nil)))))))))))) ?_
              refine wg_takep (i := 4) rfl (ov_not rfl) rfl rfl rfl (by kernel_rfl) (by kernel_rfl) (by kernel_rfl) rfl ?_
              refine wg_done (by kernel_rfl) ?_
              refine ce_then ?_
              refine cw_false rfl ?_
              refine cw_skip ?_
              refine ce_then ?_
              refine cw_seq ?_
              refine cw_region ?_
              refine wl_v (ov_assign rfl) rfl rfl rfl ?_
              refine wl_nil ?_
              refine ce_then ?_
              refine cw_seq ?_
              refine cw_region ?_
              refine wl_v (ov_loadAgg (vs := [.int .i64 (N), .slice (some ⟨g_36, 0, none⟩) (es.length) (es.length)]) tI30 (holds_blk (List.Mem.tail _ (List.Mem.tail _ (List.Mem.tail _ (List.Mem.tail _ (List.Mem.tail _ (List.Mem.head _))))))) rfl some_lit rfl rfl) rfl rfl rfl ?_
              refine wl_v (ov_move rfl) rfl rfl rfl ?_
              refine wl_r (or_call (fv := []) (vs := [.agg #[.int .i64 (N), .slice (some ⟨g_36, 0, none⟩) (es.length) (es.length)], .int .i64 (1)]) (cs := []) en18 rfl rfl (call_m (.tail (.tail (.tail (.tail (.tail (.tail .head)))))) (fun w hw => markGraph_c w _ _ _ (some ⟨g_36, 0, none⟩) es.length es.length es.length es 1 N rfl (Nat.le_refl _) (by first | assumption | omega | (simp; omega)) (by first | assumption | omega | (simp; omega)) hw))) rfl rfl (kt0 rfl ?_)
              refine wl_v (ov_assign rfl) rfl rfl rfl ?_
              refine wl_nil ?_
              refine ce_then ?_
              refine cw_seq ?_
              refine cw_region ?_
              refine wl_v (ov_loadAgg (vs := [.int .i64 (M), .slice (some ⟨g_38, 0, none⟩) (fs.length) (fs.length)]) tI30 (holds_blk (List.Mem.tail _ (List.Mem.tail _ (List.Mem.tail _ (List.Mem.tail _ (List.Mem.head _)))))) rfl some_lit rfl rfl) rfl rfl rfl ?_
              refine wl_v (ov_move rfl) rfl rfl rfl ?_
              refine wl_r (or_call (fv := []) (vs := [.agg #[.int .i64 (M), .slice (some ⟨g_38, 0, none⟩) (fs.length) (fs.length)], .int .i64 (1 + 2 * (es.length : Int))]) (cs := []) en18 rfl rfl (call_m (.tail (.tail (.tail (.tail (.tail .head))))) (fun w hw => markGraph_c w _ _ _ (some ⟨g_38, 0, none⟩) fs.length fs.length fs.length fs (1 + 2 * (es.length : Int)) M rfl (Nat.le_refl _) (by first | assumption | omega | (simp; omega)) (by first | assumption | omega | (simp; omega)) hw))) rfl rfl (kt0 rfl ?_)
              refine wl_v (ov_assign rfl) rfl rfl rfl ?_
              refine wl_nil ?_
              refine ce_then ?_
              refine cw_seq ?_
              refine cw_seq ?_
              refine cw_region ?_
              refine wl_v (ov_move rfl) rfl rfl rfl ?_
              refine wl_if (ov_lss rfl rfl) rfl rfl rfl (fun c71 => ?_) (fun c71 => ?_)
              ·
                first | (exfalso; omega) | exact absurd rfl c71 | exact absurd (by simp) c71 | (exfalso; simp at c71; omega) | exact absurd ⟨rfl, rfl⟩ c71 | (simp at c71)
              ·
                refine wl_v (ov_move rfl) rfl rfl rfl ?_
                refine wl_go rfl rfl ?_
                refine wl_v (ov_move rfl) rfl rfl rfl ?_
                refine wl_go rfl rfl ?_
                refine wl_v (ov_move rfl) rfl rfl rfl ?_
                refine wl_go rfl rfl ?_
                refine wl_r (or_call (fv := []) (vs := [.slice A3_42 ((mapV N es M fs).1.length) (c3_42), .slice A3_32 ((mapV N es M fs).1.length) (c3_32)]) (cs := []) en15 rfl rfl (call_v (fun w hw => eqIntS_c w A3_42 ((mapV N es M fs).1.length) c3_42 ((mapV N es M fs).1) A3_32 ((mapV N es M fs).1.length) c3_32 ((mapV N es M fs).1) ((holds_row (List.Mem.tail _ (List.Mem.tail _ (List.Mem.tail _ (List.Mem.tail _ (List.Mem.head _)))))) w hw) rfl h_42 ((holds_row (List.Mem.tail _ (List.Mem.tail _ (List.Mem.tail _ (List.Mem.tail _ (List.Mem.tail _ (List.Mem.tail _ (List.Mem.tail _ (List.Mem.head _))))))))) w hw) rfl h_32 (by first | assumption | omega | (simp; omega))))) rfl rfl (kt_if rfl (fun c75 => ?_) (fun c75 => ?_))
                ·
                  refine wl_go rfl rfl ?_
                  refine wl_v (ov_not rfl) rfl rfl rfl ?_
                  refine wl_v (ov_pick_f rfl rfl) rfl rfl rfl ?_
                  refine wl_v (ov_move rfl) rfl rfl rfl ?_
                  refine wl_go rfl rfl ?_
                  refine wl_v (ov_move rfl) rfl rfl rfl ?_
                  refine wl_go rfl rfl ?_
                  refine wl_v (ov_move rfl) rfl rfl rfl ?_
                  refine wl_go rfl rfl ?_
                  refine wl_if (OpV.dec (ov_neqb uI4 rfl rfl)) rfl rfl rfl (fun c81 => ?_) (fun c81 => ?_)
                  ·
                    first | (exfalso; omega) | exact absurd rfl c81 | exact absurd (by simp) c81 | (exfalso; simp at c81; omega) | exact absurd ⟨rfl, rfl⟩ c81 | (simp at c81)
                  ·
                    refine wl_v (ov_pick_f rfl rfl) rfl rfl rfl ?_
                    refine wl_nil ?_
                    refine ce_then ?_
                    refine cw_false rfl ?_
                    refine cw_skip ?_
                    refine ce_then ?_
                    refine cw_seq ?_
                    refine cw_region ?_
                    refine wl_v (ov_assign rfl) rfl rfl rfl ?_
                    refine wl_nil ?_
                    refine ce_then ?_
                    refine cw_seq ?_
                    refine cw_region ?_
                    refine wl_v (ov_move rfl) rfl rfl rfl ?_
                    refine wl_v (ov_move rfl) rfl rfl rfl ?_
                    refine wl_r (or_call (fv := []) (vs := [.slice A3_42 ((mapV N es M fs).1.length) (c3_42), .int .i64 (1)]) (cs := []) en19 rfl rfl (call_m (.tail (.tail (.tail (.tail .head)))) (fun w hw => markIntS_c w _ _ _ A3_42 ((mapV N es M fs).1.length) c4_42 c3_42 ((mapV N es M fs).1) 1 rfl h_42 (by first | assumption | omega | (simp; omega)) (by first | assumption | omega | (simp; omega)) hw))) rfl rfl (kt0 rfl ?_)
                    refine wl_v (ov_assign rfl) rfl rfl rfl ?_
                    refine wl_nil ?_
                    refine ce_then ?_
                    refine cw_seq ?_
                    refine cw_region ?_
                    refine wl_v (ov_assign rfl) rfl rfl rfl ?_
                    refine wl_nil ?_
                    refine ce_then ?_
                    refine cw_seq ?_
                    refine cw_region ?_
                    refine wl_v (ov_move rfl) rfl rfl rfl ?_
                    refine wl_v (ov_move rfl) rfl rfl rfl ?_
                    refine wl_r (or_call (fv := []) (vs := [.slice A3_42 ((mapV N es M fs).1.length) (c3_42), .int .i64 (1)]) (cs := []) en20 rfl rfl (call_v (fun w hw => heldIntS_c w A3_42 ((mapV N es M fs).1.length) c3_42 (marks 1 ((mapV N es M fs).1.length)) 1 ((holds_row (List.Mem.head _)) w hw) (marks_length _ _) h_42 (by rw [marks_length]; omega) (by first | assumption | omega | (simp; omega))))) rfl rfl (kt0 rfl ?_)
                    refine wl_v (ov_assign rfl) rfl rfl rfl ?_
                    refine wl_nil ?_
                    refine ce_then ?_
                    refine cw_seq ?_
                    refine cw_seq ?_
                    refine cw_region ?_
                    refine wl_v (ov_move rfl) rfl rfl rfl ?_
                    refine wl_if (ov_lss rfl rfl) rfl rfl rfl (fun c90 => ?_) (fun c90 => ?_)
                    ·
                      first | (exfalso; omega) | exact absurd rfl c90 | exact absurd (by simp) c90 | (exfalso; simp at c90; omega) | exact absurd ⟨rfl, rfl⟩ c90 | (simp at c90)
                    ·
                      refine wl_nil ?_
                      refine ce_then ?_
                      refine cw_false rfl ?_
                      refine cw_skip ?_
                      refine ce_then ?_
                      refine cw_seq ?_
                      refine cw_seq ?_
                      refine cw_region ?_
                      refine wl_v (ov_move rfl) rfl rfl rfl ?_
                      refine wl_v (ov_move rfl) rfl rfl rfl ?_
                      refine wl_if (ov_neq rfl rfl) rfl rfl rfl (fun c93 => ?_) (fun c93 => ?_)
                      ·
                        first | (exfalso; omega) | exact absurd rfl c93 | exact absurd (by simp) c93 | (exfalso; simp at c93; omega) | exact absurd ⟨rfl, rfl⟩ c93 | (simp at c93)
                      ·
                        refine wl_nil ?_
                        refine ce_then ?_
                        refine cw_false rfl ?_
                        refine cw_skip ?_
                        refine ce_then ?_
                        refine cw_seq ?_
                        refine cw_draw mixO [] (.cons (.head) (.cons (.head) (.cons (.head) (.cons (.head) (.cons (.head) (.cons (.head) (.cons (.head) (.cons (.head) (.cons (.head) (.cons (.head) (.cons (.head) (.cons (.head) (.nil))))))))))))) rfl ?_
                        refine wg_take (i := 0) rfl (ov_loadAgg (vs := [.int .i64 (N), .slice A (es.length) (c)]) tI24 (holds_blk (List.Mem.tail _ (List.Mem.tail _ (List.Mem.tail _ (List.Mem.tail _ (List.Mem.tail _ (List.Mem.tail _ (List.Mem.tail _ (List.Mem.tail _ (List.Mem.tail _ (List.Mem.tail _ (List.Mem.tail _ (List.Mem.head _))))))))))))) rfl some_lit rfl rfl) rfl rfl rfl (by kernel_rfl) (by kernel_rfl) (by kernel_rfl) (by kernel_rfl) ?_
                        refine wg_take (i := 2) rfl (ov_loadAgg (vs := [.int .i64 (M), .slice A2 (fs.length) (c2)]) tI24 (holds_blk (List.Mem.tail _ (List.Mem.tail _ (List.Mem.tail _ (List.Mem.tail _ (List.Mem.tail _ (List.Mem.tail _ (List.Mem.tail _ (List.Mem.tail _ (List.Mem.tail _ (List.Mem.tail _ (List.Mem.head _)))))))))))) rfl some_lit rfl rfl) rfl rfl rfl (by kernel_rfl) (by kernel_rfl) (by kernel_rfl) (by kernel_rfl) ?_
                        refine wg_one (i := 1) (by kernel_rfl) ?_
                        refine go_r rfl rfl rfl rfl (or_call (fv := []) (vs := [.agg #[.int .i64 (N), .slice A (es.length) (c)]]) (cs := []) en11 rfl rfl (call_x1 (fun w hw => toGraph_c w N A es.length c es ((holds_old oA) w hw) rfl lA (by first | assumption | omega | (simp; omega))))) (kt1p rfl (fun g_96 h_96 => ?_))
                        refine gk (.cons (.tail .head) (.cons (.tail .head) (.cons (.tail .head) (.cons (.tail .head) (.cons (.tail .head) (.cons (.tail .head) (.cons (.tail .head) (.cons (.tail .head) (.cons (.tail .head) (.cons (.tail .head) (.cons (.tail .head) (.cons (.tail .head) (.nil))))))))))))) ?_
                        refine wg_one (i := 3) (by kernel_rfl) ?_
                        refine go_r rfl rfl rfl rfl (or_call (fv := []) (vs := [.agg #[.int .i64 (M), .slice A2 (fs.length) (c2)]]) (cs := []) en11 rfl rfl (call_x1 (fun w hw => toGraph_c w M A2 fs.length c2 fs ((holds_old oA2) w hw) rfl lA2 (by first | assumption | omega | (simp; omega))))) (kt1p rfl (fun g_98 h_98 => ?_))
                        refine gk (.cons (.tail (.tail .head)) (.cons (.tail (.tail .head)) (.cons (.tail (.tail .head)) (.cons (.tail (.tail .head)) (.cons (.tail (.tail .head)) (.cons (.tail (.tail .head)) (.cons (.tail (.tail .head)) (.cons (.tail (.tail .head)) (.cons (.tail (.tail .head)) (.cons (.tail (.tail .head)) (.cons (.tail (.tail .head)) (.cons (.tail (.tail .head)) (.nil))))))))))))) ?_
                        refine wg_one (i := 4) (by kernel_rfl) ?_
                        refine go_r rfl rfl rfl rfl (or_call (fv := []) (vs := [.agg #[.int .i64 (N), .slice (some ⟨g_96, 0, none⟩) (es.length) (es.length)], .agg #[.int .i64 (M), .slice (some ⟨g_98, 0, none⟩) (fs.length) (fs.length)]]) (cs := []) en17 rfl rfl (call_x3 (fun w hw => MapOfI_c w N (some ⟨g_96, 0, none⟩) es.length es.length es M (some ⟨g_98, 0, none⟩) fs.length fs.length fs ((holds_row (List.Mem.tail _ (List.Mem.head _))) w hw) rfl (Nat.le_refl _) ((holds_row (List.Mem.head _)) w hw) rfl (Nat.le_refl _) (by first | assumption | omega | (simp; omega)) (by first | assumption | omega | (simp; omega))))) (kt3p rfl (fun A3_99 c3_99 c4_99 h_99 => ?_))
                        refine gk (.cons (.tail (.tail (.tail .head))) (.cons (.tail (.tail (.tail .head))) (.cons (.tail (.tail (.tail .head))) (.cons (.tail (.tail (.tail .head))) (.cons (.tail (.tail (.tail .head))) (.cons (.tail (.tail (.tail .head))) (.cons (.tail (.tail (.tail .head))) (.cons (.tail (.tail (.tail .head))) (.cons (.tail (.tail (.tail .head))) (.cons (.tail (.tail (.tail .head))) (.cons (.tail (.tail (.tail .head))) (.cons (.tail (.tail (.tail .head))) (.nil))))))))))))) ?_
                        refine wg_takep (i := 5) rfl (ov_move rfl) rfl rfl rfl (by kernel_rfl) (by kernel_rfl) (by kernel_rfl) rfl ?_
                        refine wg_takep (i := 6) rfl (ov_extract rfl rfl) rfl rfl rfl (by kernel_rfl) (by kernel_rfl) (by kernel_rfl) rfl ?_
                        refine wg_takep (i := 7) rfl (ov_extract rfl rfl) rfl rfl rfl (by kernel_rfl) (by kernel_rfl) (by kernel_rfl) rfl ?_
                        refine wg_takep (i := 8) rfl (ov_assign rfl) rfl rfl rfl (by kernel_rfl) (by kernel_rfl) (by kernel_rfl) rfl ?_
                        refine wg_takep (i := 9) rfl (ov_assign rfl) rfl rfl rfl (by kernel_rfl) (by kernel_rfl) (by kernel_rfl) rfl ?_
                        refine wg_done (by kernel_rfl) ?_
                        refine ce_then ?_
                        refine cw_seq ?_
                        refine cw_seq ?_
                        refine cw_region ?_
                        refine wl_v (ov_move rfl) rfl rfl rfl ?_
                        refine wl_v (ov_move rfl) rfl rfl rfl ?_
                        refine wl_r (or_call (fv := []) (vs := [.slice A3_99 ((mapV N es M fs).1.length) (c3_99), .slice A3_32 ((mapV N es M fs).1.length) (c3_32)]) (cs := []) en15 rfl rfl (call_v (fun w hw => eqIntS_c w A3_99 ((mapV N es M fs).1.length) c3_99 ((mapV N es M fs).1) A3_32 ((mapV N es M fs).1.length) c3_32 ((mapV N es M fs).1) ((holds_row (List.Mem.head _)) w hw) rfl h_99 ((holds_row (List.Mem.tail _ (List.Mem.tail _ (List.Mem.tail _ (List.Mem.tail _ (List.Mem.tail _ (List.Mem.tail _ (List.Mem.tail _ (List.Mem.tail _ (List.Mem.tail _ (List.Mem.tail _ (List.Mem.head _)))))))))))) w hw) rfl h_32 (by first | assumption | omega | (simp; omega))))) rfl rfl (kt_if rfl (fun c104 => ?_) (fun c104 => ?_))
                        ·
                          refine wl_v (ov_not rfl) rfl rfl rfl ?_
                          refine wl_v (ov_move rfl) rfl rfl rfl ?_
                          refine wl_go rfl rfl ?_
                          refine wl_v (ov_move rfl) rfl rfl rfl ?_
                          refine wl_go rfl rfl ?_
                          refine wl_v (ov_move rfl) rfl rfl rfl ?_
                          refine wl_go rfl rfl ?_
                          refine wl_if (OpV.dec (ov_neqb uI4 rfl rfl)) rfl rfl rfl (fun c109 => ?_) (fun c109 => ?_)
                          ·
                            first | (exfalso; omega) | exact absurd rfl c109 | exact absurd (by simp) c109 | (exfalso; simp at c109; omega) | exact absurd ⟨rfl, rfl⟩ c109 | (simp at c109)
                          ·
                            refine wl_v (ov_pick_f rfl rfl) rfl rfl rfl ?_
                            refine wl_nil ?_
                            refine ce_then ?_
                            refine cw_false rfl ?_
                            refine cw_skip ?_
                            refine ce_then ?_
                            refine cw_seq ?_
                            refine cw_region ?_
                            refine wl_v (ov_assign rfl) rfl rfl rfl ?_
                            refine wl_nil ?_
                            refine ce_then ?_
                            refine cw_seq ?_
                            refine cw_region ?_
                            refine wl_v (ov_move rfl) rfl rfl rfl ?_
                            refine wl_v (ov_move rfl) rfl rfl rfl ?_
                            refine wl_r (or_call (fv := []) (vs := [.slice A3_42 ((mapV N es M fs).1.length) (c3_42), .int .i64 (1)]) (cs := []) en20 rfl rfl (call_v (fun w hw => heldIntS_c w A3_42 ((mapV N es M fs).1.length) c3_42 (marks 1 ((mapV N es M fs).1.length)) 1 ((holds_row (List.Mem.tail _ (List.Mem.tail _ (List.Mem.tail _ (List.Mem.head _))))) w hw) (marks_length _ _) h_42 (by rw [marks_length]; omega) (by first | assumption | omega | (simp; omega))))) rfl rfl (kt0 rfl ?_)
                            refine wl_v (ov_assign rfl) rfl rfl rfl ?_
                            refine wl_nil ?_
                            refine ce_then ?_
                            refine cw_seq ?_
                            refine cw_seq ?_
                            refine cw_region ?_
                            refine wl_v (ov_move rfl) rfl rfl rfl ?_
                            refine wl_if (ov_lss rfl rfl) rfl rfl rfl (fun c115 => ?_) (fun c115 => ?_)
                            ·
                              first | (exfalso; omega) | exact absurd rfl c115 | exact absurd (by simp) c115 | (exfalso; simp at c115; omega) | exact absurd ⟨rfl, rfl⟩ c115 | (simp at c115)
                            ·
                              refine wl_nil ?_
                              refine ce_then ?_
                              refine cw_false rfl ?_
                              refine cw_skip ?_
                              refine ce_then ?_
                              refine cw_seq ?_
                              refine cw_seq ?_
                              refine cw_region ?_
                              refine wl_v (ov_move rfl) rfl rfl rfl ?_
                              refine wl_v (ov_move rfl) rfl rfl rfl ?_
                              refine wl_if (ov_neq rfl rfl) rfl rfl rfl (fun c118 => ?_) (fun c118 => ?_)
                              ·
                                first | (exfalso; omega) | exact absurd rfl c118 | exact absurd (by simp) c118 | (exfalso; simp at c118; omega) | exact absurd ⟨rfl, rfl⟩ c118 | (simp at c118)
                              ·
                                refine wl_nil ?_
                                refine ce_then ?_
                                refine cw_false rfl ?_
                                refine cw_skip ?_
                                refine ce_then ?_
                                refine cw_seq ?_
                                refine cw_region ?_
                                refine wl_v (ov_assign rfl) rfl rfl rfl ?_
                                refine wl_nil ?_
                                refine ce_then ?_
                                refine cw_ret ?_
                                refine ce_results (v := .bool true) (res1 rfl (rv_t rfl)) (fun w' hw => ?_)
                                exact ⟨rfl, (Keep.nil.ss hw).to_new⟩
                        ·
                          first | (exfalso; omega) | exact absurd rfl c104 | exact absurd (by simp) c104 | (exfalso; simp at c104; omega) | exact absurd ⟨rfl, rfl⟩ c104 | (simp at c104)
                ·
                  first | (exfalso; omega) | exact absurd rfl c75 | exact absurd (by simp) c75 | (exfalso; simp at c75; omega) | exact absurd ⟨rfl, rfl⟩ c75 | (simp at c75)
            ·
              first | (exfalso; omega) | exact absurd rfl c62 | exact absurd (by simp) c62 | (exfalso; simp at c62; omega) | exact absurd ⟨rfl, rfl⟩ c62 | (simp at c62)
          ·
            first | (exfalso; omega) | exact absurd rfl c57 | exact absurd (by simp) c57 | (exfalso; simp at c57; omega) | exact absurd ⟨rfl, rfl⟩ c57 | (simp at c57)
      ·
        first | (exfalso; omega) | exact absurd rfl c47 | exact absurd (by simp) c47 | (exfalso; simp at c47; omega) | exact absurd ⟨rfl, rfl⟩ c47 | (simp at c47)
end Go.Proofs.Ytlgkooeflgmcaab.LFnExactMapOf
