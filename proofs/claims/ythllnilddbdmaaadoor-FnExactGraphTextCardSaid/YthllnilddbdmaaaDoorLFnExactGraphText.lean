/- Walks of functions of the given program: each returns what its Lean function says and leaves the memory that was there as it was. Conditions: those of each theorem. -/
import Derived.Test.YthllnilddbdmaaaDoorSm
import Derived.Test.YthllnilddbdmaaaDoorProg
import Derived.Test.YthllnilddbdmaaaDoorPl
import Derived.Test.YthllnilddbdmaaaDoorPo
import Derived.Test.YthllnilddbdmaaaDoorPd
import Derived.Test.YthllnilddbdmaaaDoorPe
import Derived.Test.YthllnilddbdmaaaDoorPh
import Derived.Test.YthllnilddbdmaaaDoorPm
import Derived.Test.YthllnilddbdmaaaDoorPc
import Derived.Test.YthllnilddbdmaaaDoorPs
import Derived.Test.YthllnilddbdmaaaDoorPt
import Derived.Test.YthllnilddbdmaaaDoorPu
import Derived.Test.YthllnilddbdmaaaDoorPv
import Derived.Test.YthllnilddbdmaaaDoorPw
import Derived.Test.YthllnilddbdmaaaDoorPx
import Derived.Test.YthllnilddbdmaaaDoorPy
import Derived.Test.YthllnilddbdmaaaDoorPz
import Derived.Test.YthllnilddbdmaaaDoorPr
import Derived.Test.YthllnilddbdmaaaDoorPa
import Derived.Test.YthllnilddbdmaaaDoorPn
import Derived.Test.YthllnilddbdmaaaDoorPj
import Derived.Test.YthllnilddbdmaaaDoorPq
import Derived.Test.YthllnilddbdmaaaDoorSs
import Derived.Test.YthllnilddbdmaaaDoorPk
import Derived.Test.YthllnilddbdmaaaDoorSb
import Derived.Test.YthllnilddbdmaaaDoorT
import Derived.Test.YthllnilddbdmaaaDoorW5
import Derived.Test.YthllnilddbdmaaaDoorW52
import Derived.KernelRfl
namespace Go.Proofs.YthllnilddbdmaaaDoor.LFnExactGraphText
open Go.Sx Go.RowKit Go.Proofs.YthllnilddbdmaaaDoor.T Go.Proofs.YthllnilddbdmaaaDoor.W5 Go.Proofs.YthllnilddbdmaaaDoor.W52
open Go.Plain
set_option linter.unusedVariables false
set_option maxRecDepth 100000 in
theorem FnExactGraphText_c (w : World) (N : Int) (A : Option Addr) (n : Nat) (c : Nat) (es : List (Int × Int)) (hA : At w A (cells fE es)) (eA : es.length = n) (lA : n ≤ c) (hN : -9223372036854775808 ≤ N ∧ N ≤ 9223372036854775807) (hn : n ≤ 9223372036854775807) : Calls Tryd.prog 3 #[.agg #[.int .i64 (N), .slice A (n) (c)]] w (Ret fun rv w' => rv = .bool true ∧ New w w' []) := by
  have oA := hA.atB
  subst eA
  refine fn_enter (args := [.agg #[.int .i64 (N), .slice A (es.length) (c)]]) Tryd.func3 rfl Tryd.ntmps3 rfl (SS.start w) ?_
  refine cw_seq ?_
  refine cw_region ?_
  refine wl_r (or_box rfl rfl) rfl rfl (kt1 rfl (fun g1 => ?_))
  refine wl_v (ov_assign rfl) rfl rfl rfl ?_
  refine wl_nil ?_
  refine ce_then ?_
  refine cw_seq ?_
  refine cw_region ?_
  refine wl_v (ov_assign rfl) rfl rfl rfl ?_
  refine wl_nil ?_
  refine ce_then ?_
  refine cw_seq ?_
  refine cw_region ?_
  refine wl_v (ov_loadAgg (vs := [.int .i64 (N), .slice A (es.length) (c)]) tI24 (holds_blk (List.Mem.head _)) rfl some_lit rfl rfl) rfl rfl rfl ?_
  refine wl_v (ov_move rfl) rfl rfl rfl ?_
  refine wl_r (or_call (fv := []) (vs := [.agg #[.int .i64 (N), .slice A (es.length) (c)], .int .i64 (1048576)]) (cs := []) en7 rfl rfl (call_v (fun w hw => szGraph_c w N A es.length c es 1048576 ((holds_old oA) w hw) rfl lA (by first | assumption | omega | (simp; omega))))) rfl rfl (kt0 rfl ?_)
  refine wl_v (ov_assign rfl) rfl rfl rfl ?_
  refine wl_nil ?_
  refine ce_then ?_
  refine cw_seq ?_
  refine cw_seq ?_
  refine cw_region ?_
  refine wl_v (ov_move rfl) rfl rfl rfl ?_
  refine wl_if (ov_lss rfl rfl) rfl rfl rfl (fun c11 => ?_) (fun c11 => ?_)
  ·
    refine wl_nil ?_
    refine ce_then ?_
    refine cw_true rfl ?_
    refine cw_seq ?_
    refine cw_region ?_
    refine wl_v (ov_assign rfl) rfl rfl rfl ?_
    refine wl_nil ?_
    refine ce_then ?_
    refine cw_ret ?_
    refine ce_then_ret ?_
    refine ce_results (v := .bool true) (res1 rfl (rv_t rfl)) (fun w' hw => ?_)
    exact ⟨rfl, (Keep.nil.ss hw).to_new⟩
  ·
    have hsz11 : es.length ≤ 1048576 := by split at c11 <;> omega
    refine wl_nil ?_
    refine ce_then ?_
    refine cw_false rfl ?_
    refine cw_skip ?_
    refine ce_then ?_
    refine cw_seq ?_
    refine cw_region ?_
    refine wl_v (ov_loadAgg (vs := [.int .i64 (N), .slice A (es.length) (c)]) tI24 (holds_blk (List.Mem.head _)) rfl some_lit rfl rfl) rfl rfl rfl ?_
    refine wl_r (or_call (fv := []) (vs := [.agg #[.int .i64 (N), .slice A (es.length) (c)]]) (cs := []) en9 rfl rfl (call_x1 (fun w hw => toGraph_c w N A es.length c es ((holds_old oA) w hw) rfl lA (by first | assumption | omega | (simp; omega))))) rfl rfl (kt1p rfl (fun g_13 h_13 => ?_))
    refine wl_r (or_call (fv := []) (vs := [.agg #[.int .i64 (N), .slice (some ⟨g_13, 0, none⟩) (es.length) (es.length)]]) (cs := []) en8 rfl rfl (call_v (fun w hw => GraphTextS_c w N (some ⟨g_13, 0, none⟩) es.length es.length es ((holds_row (List.Mem.head _)) w hw) rfl (Nat.le_refl _) (by first | assumption | omega | (simp; omega))))) rfl rfl (kt0 rfl ?_)
    refine wl_v (ov_assign rfl) rfl rfl rfl ?_
    refine wl_nil ?_
    refine ce_then ?_
    refine cw_seq ?_
    refine cw_region ?_
    refine wl_v (ov_loadAgg (vs := [.int .i64 (N), .slice A (es.length) (c)]) tI24 (holds_blk (List.Mem.tail _ (List.Mem.head _))) rfl some_lit rfl rfl) rfl rfl rfl ?_
    refine wl_r (or_call (fv := []) (vs := [.agg #[.int .i64 (N), .slice A (es.length) (c)]]) (cs := []) en9 rfl rfl (call_x1 (fun w hw => toGraph_c w N A es.length c es ((holds_old oA) w hw) rfl lA (by first | assumption | omega | (simp; omega))))) rfl rfl (kt1p rfl (fun g_16 h_16 => ?_))
    refine wl_r (or_alloc tI29 rfl) rfl rfl (kt1 rfl (fun g5 => ?_))
    refine wl_r0 (or_store_blk (vs := [.int .i64 (N), .slice (some ⟨g_16, 0, none⟩) (es.length) (es.length)]) (cs' := [.int .i64 (N), .slice (some ⟨g_16, 0, none⟩) (es.length) (es.length)]) (.head) tI29 rfl rfl rfl rfl (Nat.le_of_ble_eq_true rfl) rfl) rfl rfl (kn0 ?_)
    refine wl_nil ?_
    refine ce_then ?_
    refine cw_seq ?_
    refine cw_region ?_
    refine wl_v (ov_loadAgg (vs := [.int .i64 (N), .slice (some ⟨g_16, 0, none⟩) (es.length) (es.length)]) tI29 (holds_blk (List.Mem.head _)) rfl some_lit rfl rfl) rfl rfl rfl ?_
    refine wl_r (or_call (fv := []) (vs := [.agg #[.int .i64 (N), .slice (some ⟨g_16, 0, none⟩) (es.length) (es.length)]]) (cs := []) en10 rfl rfl (call_v (fun w hw => GraphTextI_c w N (some ⟨g_16, 0, none⟩) es.length es.length es ((holds_row (List.Mem.tail _ (List.Mem.head _))) w hw) rfl (Nat.le_refl _) (by first | assumption | omega | (simp; omega)) (by first | assumption | omega | (simp; omega))))) rfl rfl (kt0 rfl ?_)
    refine wl_v (ov_assign rfl) rfl rfl rfl ?_
    refine wl_nil ?_
    refine ce_then ?_
    refine cw_seq ?_
    refine cw_seq ?_
    refine cw_region ?_
    refine wl_v (ov_move rfl) rfl rfl rfl ?_
    refine wl_v (ov_move rfl) rfl rfl rfl ?_
    refine wl_if (ov_neqs rfl rfl) rfl rfl rfl (fun c21 => ?_) (fun c21 => ?_)
    ·
      first | (exfalso; omega) | exact absurd rfl c21 | exact absurd (by simp) c21 | (exfalso; simp at c21; omega) | exact absurd ⟨rfl, rfl⟩ c21
    ·
      refine wl_nil ?_
      refine ce_then ?_
      refine cw_false rfl ?_
      refine cw_skip ?_
      refine ce_then ?_
      refine cw_seq ?_
      refine cw_seq ?_
      refine cw_draw mixO [] (.cons (.head) (.cons (.head) (.cons (.head) (.cons (.head) (.nil))))) rfl ?_
      refine wg_take (i := 0) rfl (ov_loadAgg (vs := [.int .i64 (N), .slice (some ⟨g_16, 0, none⟩) (es.length) (es.length)]) tI29 (holds_blk (List.Mem.head _)) rfl some_lit rfl rfl) rfl rfl rfl (by kernel_rfl) (by kernel_rfl) (by kernel_rfl) (by kernel_rfl) ?_
      refine wg_take (i := 1) rfl (ov_loadAgg (vs := [.int .i64 (N), .slice A (es.length) (c)]) tI24 (holds_blk (List.Mem.tail _ (List.Mem.tail _ (List.Mem.tail _ (List.Mem.head _))))) rfl some_lit rfl rfl) rfl rfl rfl (by kernel_rfl) (by kernel_rfl) (by kernel_rfl) (by kernel_rfl) ?_
      refine wg_one (i := 2) (by kernel_rfl) ?_
      refine go_r rfl rfl rfl rfl (or_call (fv := []) (vs := [.agg #[.int .i64 (N), .slice A (es.length) (c)]]) (cs := []) en9 rfl rfl (call_x1 (fun w hw => toGraph_c w N A es.length c es ((holds_old oA) w hw) rfl lA (by first | assumption | omega | (simp; omega))))) (kt1p rfl (fun g_24 h_24 => ?_))
      refine gk (.cons (.tail .head) (.cons (.tail .head) (.cons (.tail .head) (.cons (.tail .head) (.nil))))) ?_
      refine wg_one (i := 3) (by kernel_rfl) ?_
      refine go_r rfl rfl rfl rfl (or_call (fv := []) (vs := [.agg #[.int .i64 (N), .slice (some ⟨g_16, 0, none⟩) (es.length) (es.length)], .agg #[.int .i64 (N), .slice (some ⟨g_24, 0, none⟩) (es.length) (es.length)]]) (cs := []) en11 rfl rfl (call_v (fun w hw => eqGraph_c w N (some ⟨g_16, 0, none⟩) es.length es.length es N (some ⟨g_24, 0, none⟩) es.length es.length es ((holds_row (List.Mem.tail _ (List.Mem.tail _ (List.Mem.head _)))) w hw) rfl (Nat.le_refl _) ((holds_row (List.Mem.head _)) w hw) rfl (Nat.le_refl _) (by first | assumption | omega | (simp; omega))))) (kt_if rfl (fun c25 => ?_) (fun c25 => ?_))
      ·
        refine gk (.cons (.tail .head) (.cons (.tail .head) (.cons (.tail .head) (.cons (.tail .head) (.nil))))) ?_
        refine wg_takep (i := 4) rfl (ov_not rfl) rfl rfl rfl (by kernel_rfl) (by kernel_rfl) (by kernel_rfl) rfl ?_
        refine wg_done (by kernel_rfl) ?_
        refine ce_then ?_
        refine cw_false rfl ?_
        refine cw_skip ?_
        refine ce_then ?_
        refine cw_seq ?_
        refine cw_region ?_
        refine wl_v (ov_assign rfl) rfl rfl rfl ?_
        refine wl_nil ?_
        refine ce_then ?_
        refine cw_ret ?_
        refine ce_results (v := .bool true) (res1 rfl (rv_t rfl)) (fun w' hw => ?_)
        exact ⟨rfl, (Keep.nil.ss hw).to_new⟩
      ·
        first | (exfalso; omega) | exact absurd rfl c25 | exact absurd (by simp) c25 | (exfalso; simp at c25; omega) | exact absurd ⟨rfl, rfl⟩ c25
end Go.Proofs.YthllnilddbdmaaaDoor.LFnExactGraphText
