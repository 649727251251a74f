/- Walks of functions of the given program: each returns what its Lean function says and leaves the memory that was there as it was. Conditions: those of each theorem. -/
import Derived.Test.YthbfgkeoojghoaaSm
import Derived.Test.YthbfgkeoojghoaaProg
import Derived.Test.YthbfgkeoojghoaaPl
import Derived.Test.YthbfgkeoojghoaaPo
import Derived.Test.YthbfgkeoojghoaaPd
import Derived.Test.YthbfgkeoojghoaaPe
import Derived.Test.YthbfgkeoojghoaaPh
import Derived.Test.YthbfgkeoojghoaaPm
import Derived.Test.YthbfgkeoojghoaaPc
import Derived.Test.YthbfgkeoojghoaaPs
import Derived.Test.YthbfgkeoojghoaaPt
import Derived.Test.YthbfgkeoojghoaaPu
import Derived.Test.YthbfgkeoojghoaaPv
import Derived.Test.YthbfgkeoojghoaaPw
import Derived.Test.YthbfgkeoojghoaaPx
import Derived.Test.YthbfgkeoojghoaaPy
import Derived.Test.YthbfgkeoojghoaaPz
import Derived.Test.YthbfgkeoojghoaaSo
import Derived.Test.YthbfgkeoojghoaaSh
import Derived.Test.YthbfgkeoojghoaaT
import Derived.Test.YthbfgkeoojghoaaW5
import Derived.Test.YthbfgkeoojghoaaW12
import Derived.Test.YthbfgkeoojghoaaW14
import Derived.Test.YthbfgkeoojghoaaW40
import Derived.Test.YthbfgkeoojghoaaW41
import Derived.Test.YthbfgkeoojghoaaW42
import Derived.KernelRfl
namespace Go.Proofs.Ythbfgkeoojghoaa.LFnBarrierOf
open Go.Sx Go.RowKit Go.Proofs.Ythbfgkeoojghoaa.T Go.Proofs.Ythbfgkeoojghoaa.W5 Go.Proofs.Ythbfgkeoojghoaa.W12 Go.Proofs.Ythbfgkeoojghoaa.W14 Go.Proofs.Ythbfgkeoojghoaa.W40 Go.Proofs.Ythbfgkeoojghoaa.W41 Go.Proofs.Ythbfgkeoojghoaa.W42
open Go.Plain
set_option linter.unusedVariables false
set_option maxRecDepth 100000 in
theorem FnBarrierOf_c (w : World) (Ar : Option Addr) (nr : Nat) (cr : Nat) (bs : List (Nat)) (hAr : At w Ar (cells fY bs)) (eAr : bs.length = nr) (lAr : nr ≤ cr) (hb : ∀ x ∈ bs, x < 256) : Calls Try.prog 3 #[.slice Ar (nr) (cr)] w (Ret fun rv w' => rv = .bool true ∧ New w w' []) := by
  have oAr := hAr.atB
  subst eAr
  refine fn_enter (args := [.slice Ar (bs.length) (cr)]) Try.func3 rfl Try.ntmps3 rfl (SS.start w) ?_
  refine cw_seq ?_
  refine cw_region ?_
  refine wl_v (ov_assign rfl) rfl rfl rfl ?_
  refine wl_nil ?_
  refine ce_then ?_
  refine cw_seq ?_
  refine cw_seq ?_
  refine cw_region ?_
  refine wl_v (ov_move rfl) rfl rfl rfl ?_
  refine wl_v (ov_len (sliceI_spec sI22) rfl) rfl rfl rfl ?_
  refine wl_if (ov_gtr rfl rfl) rfl rfl rfl (fun c7 => ?_) (fun c7 => ?_)
  ·
    refine wl_nil ?_
    refine ce_then ?_
    refine cw_true rfl ?_
    refine cw_seq ?_
    refine cw_region ?_
    refine wl_v (ov_assign rfl) rfl rfl rfl ?_
    refine wl_nil ?_
    refine ce_then ?_
    refine cw_ret ?_
    refine ce_then_ret ?_
    refine ce_results (v := .bool true) (res1 rfl (rv_t rfl)) (fun w' hw => ?_)
    exact ⟨rfl, (Keep.nil.ss hw).to_new⟩
  ·
    refine wl_nil ?_
    refine ce_then ?_
    refine cw_false rfl ?_
    refine cw_skip ?_
    refine ce_then ?_
    refine cw_seq ?_
    refine cw_region ?_
    refine wl_v (ov_move rfl) rfl rfl rfl ?_
    refine wl_r (or_call (fv := []) (vs := [.slice Ar (bs.length) (cr)]) (cs := []) en9 rfl rfl (call_x4 (fun w hw => DrawBarrierOf_c w Ar bs.length cr bs ((holds_old oAr) w hw) rfl lAr (by first | assumption | omega | (simp; omega))))) rfl rfl (kt4p rfl (fun N_9 A1_9 c1_9 es_9 h_9 => ?_))
    have hb9 := h_9
    have hbl := barV_len N_9 es_9
    refine wl_r (or_alloc tI25 rfl) rfl rfl (kt1 rfl (fun g3 => ?_))
    refine wl_r0 (or_store_blk (vs := [.int .i64 (N_9), .slice A1_9 (es_9.length) (c1_9)]) (cs' := [.int .i64 (N_9), .slice A1_9 (es_9.length) (c1_9)]) (.head) tI25 rfl rfl rfl rfl (Nat.le_of_ble_eq_true rfl) rfl) rfl rfl (kn0 ?_)
    refine wl_nil ?_
    refine ce_then ?_
    refine cw_seq ?_
    refine cw_region ?_
    refine wl_v (ov_loadAgg (vs := [.int .i64 (N_9), .slice A1_9 (es_9.length) (c1_9)]) tI25 (holds_blk (List.Mem.head _)) rfl some_lit rfl rfl) rfl rfl rfl ?_
    refine wl_r (or_call (fv := []) (vs := [.agg #[.int .i64 (N_9), .slice A1_9 (es_9.length) (c1_9)]]) (cs := []) en10 rfl rfl (call_x3 (fun w hw => BarI_c w N_9 A1_9 es_9.length c1_9 es_9 ((holds_row (List.Mem.tail _ (List.Mem.head _))) w hw) rfl h_9.1 (by omega) (by omega)))) rfl rfl (kt3p rfl (fun A2_11 k2_11 c2_11 h_11 => ?_))
    refine wl_v (ov_assign rfl) rfl rfl rfl ?_
    refine wl_nil ?_
    refine ce_then ?_
    refine cw_seq ?_
    refine cw_seq ?_
    refine cw_region ?_
    refine wl_v (ov_move rfl) rfl rfl rfl ?_
    refine wl_v (ov_loadAgg (vs := [.int .i64 (N_9), .slice A1_9 (es_9.length) (c1_9)]) tI25 (holds_blk (List.Mem.tail _ (List.Mem.head _))) rfl some_lit rfl rfl) rfl rfl rfl ?_
    refine wl_r (or_call (fv := []) (vs := [.agg #[.int .i64 (N_9), .slice A1_9 (es_9.length) (c1_9)]]) (cs := []) en12 rfl rfl (call_x5 (fun w hw => BarS_c w N_9 A1_9 es_9.length c1_9 es_9 ((holds_row (List.Mem.tail _ (List.Mem.tail _ (List.Mem.head _)))) w hw) rfl h_9.1 (by omega) (by omega)))) rfl rfl (kt5p rfl (fun A2_14 k2_14 hs9_14 xss9_14 i0_14 h_14 => ?_))
    refine wl_r (or_call (fv := []) (vs := [.slice A2_11 ((barV N_9 es_9).length) (k2_11), .slice A2_14 ((barV N_9 es_9).length) (k2_14)]) (cs := []) en11 rfl rfl (call_v (fun w hw => equalInts_c w A2_11 ((barV N_9 es_9).length) k2_11 (barV N_9 es_9) A2_14 ((barV N_9 es_9).length) k2_14 (barV N_9 es_9) ((holds_row (List.Mem.tail _ (List.Mem.head _))) w hw) rfl h_11 ((holds_pick (List.Mem.head _) h_14.2) w hw) rfl h_14.1 (by omega)))) rfl rfl (kt_if rfl (fun c15 => ?_) (fun c15 => ?_))
    ·
      refine wl_v (ov_not rfl) rfl rfl rfl ?_
      refine wl_v (ov_move rfl) rfl rfl rfl ?_
      refine wl_go rfl rfl ?_
      refine wl_v (ov_loadAgg (vs := [.int .i64 (N_9), .slice A1_9 (es_9.length) (c1_9)]) tI25 (holds_blk (List.Mem.tail _ (List.Mem.tail _ (List.Mem.head _)))) rfl some_lit rfl rfl) rfl rfl rfl ?_
      refine wl_go rfl rfl ?_
      refine wl_r (or_call (fv := []) (vs := [.agg #[.int .i64 (N_9), .slice A1_9 (es_9.length) (c1_9)]]) (cs := []) en13 rfl rfl (call_v (fun w hw => validGraphI_c w N_9 A1_9 es_9.length c1_9 es_9 ((holds_row (List.Mem.tail _ (List.Mem.tail _ (List.Mem.tail _ (List.Mem.head _))))) w hw) rfl h_9.1 (by omega) (by first | assumption | omega | (simp; omega))))) rfl rfl (kt_if rfl (fun c19 => ?_) (fun c19 => ?_))
      ·
        have hbd := barV_def c19
        have hdp := defV_pos c19
        have hdu : defV N_9 es_9 = N_9 - 2 * ((mm es_9 : Nat) : Int) := if_pos c19
        refine wl_go rfl rfl ?_
        refine wl_v (ov_not rfl) rfl rfl rfl ?_
        refine wl_v (ov_pick_f rfl rfl) rfl rfl rfl ?_
        refine wl_nil ?_
        refine ce_then ?_
        refine cw_false rfl ?_
        refine cw_skip ?_
        refine ce_then ?_
        refine cw_seq ?_
        refine cw_draw mixO [] (.cons (.head) (.cons (.head) (.cons (.head) (.cons (.head) (.nil))))) rfl ?_
        refine wg_take (i := 0) rfl (ov_loadAgg (vs := [.int .i64 (N_9), .slice A1_9 (es_9.length) (c1_9)]) tI25 (holds_blk (List.Mem.tail _ (List.Mem.tail _ (List.Mem.head _)))) rfl some_lit rfl rfl) rfl rfl rfl (by kernel_rfl) (by kernel_rfl) (by kernel_rfl) (by kernel_rfl) ?_
        refine wg_takep (i := 1) rfl (ov_move rfl) rfl rfl rfl (by kernel_rfl) (by kernel_rfl) (by kernel_rfl) rfl ?_
        refine wg_takep (i := 3) rfl (ov_move rfl) rfl rfl rfl (by kernel_rfl) (by kernel_rfl) (by kernel_rfl) rfl ?_
        refine wg_takep (i := 4) rfl (ov_len (sliceI_spec sI27) rfl) rfl rfl rfl (by kernel_rfl) (by kernel_rfl) (by kernel_rfl) rfl ?_
        refine wg_take (i := 6) rfl (ov_loadAgg (vs := [.int .i64 (N_9), .slice A1_9 (es_9.length) (c1_9)]) tI25 (holds_blk (List.Mem.tail _ (List.Mem.tail _ (List.Mem.head _)))) rfl some_lit rfl rfl) rfl rfl rfl (by kernel_rfl) (by kernel_rfl) (by kernel_rfl) (by kernel_rfl) ?_
        refine wg_one (i := 2) (by kernel_rfl) ?_
        refine go_r rfl rfl rfl rfl (or_call (fv := []) (vs := [.agg #[.int .i64 (N_9), .slice A1_9 (es_9.length) (c1_9)], .slice A2_11 ((barV N_9 es_9).length) (k2_11)]) (cs := []) en14 rfl rfl (call_v (fun w hw => OddPartsI_c w N_9 A1_9 es_9.length c1_9 es_9 A2_11 ((barV N_9 es_9).length) k2_11 (barV N_9 es_9) ((holds_row (List.Mem.tail _ (List.Mem.tail _ (List.Mem.tail _ (List.Mem.head _))))) w hw) rfl h_9.1 ((holds_row (List.Mem.tail _ (List.Mem.head _))) w hw) rfl h_11 (by omega) (by omega)))) (kt0 rfl ?_)
        refine gk (.cons (.head) (.cons (.head) (.cons (.head) (.cons (.head) (.nil))))) ?_
        refine wg_takep (i := 5) rfl (ov_sub (r := (oddV N_9 es_9 (barV N_9 es_9)) - (((barV N_9 es_9).length : Nat) : Int)) rfl rfl rfl (by omega)) rfl rfl rfl (by kernel_rfl) (by kernel_rfl) (by kernel_rfl) rfl ?_
        refine wg_one (i := 7) (by kernel_rfl) ?_
        refine go_r rfl rfl rfl rfl (or_call (fv := []) (vs := [.agg #[.int .i64 (N_9), .slice A1_9 (es_9.length) (c1_9)]]) (cs := []) en15 rfl rfl (call_v (fun w hw => DefI_c w N_9 A1_9 es_9.length c1_9 es_9 ((holds_row (List.Mem.tail _ (List.Mem.tail _ (List.Mem.tail _ (List.Mem.head _))))) w hw) rfl h_9.1 (by omega) (by omega)))) (kt0 rfl ?_)
        refine gk (.cons (.head) (.cons (.head) (.cons (.head) (.cons (.head) (.nil))))) ?_
        refine wg_takep_if (i := 8) rfl (ov_eql rfl rfl) rfl rfl rfl (by kernel_rfl) (by kernel_rfl) (by kernel_rfl) rfl (fun c34 => ?_) (fun c34 => ?_)
        ·
          refine wg_takep (i := 9) rfl (ov_move rfl) rfl rfl rfl (by kernel_rfl) (by kernel_rfl) (by kernel_rfl) rfl ?_
          refine wg_take_go (i := 10) rfl rfl rfl (ov_move rfl) rfl (by kernel_rfl) (by kernel_rfl) (by kernel_rfl) (by kernel_rfl) ?_
          refine wg_one (i := 11) (by kernel_rfl) ?_
          refine go_rg rfl rfl rfl rfl (or_call (fv := []) (vs := [.slice A2_11 ((barV N_9 es_9).length) (k2_11)]) (cs := []) en16 rfl rfl (call_v (fun w hw => ascends_c w A2_11 ((barV N_9 es_9).length) k2_11 (barV N_9 es_9) ((holds_row (List.Mem.tail _ (List.Mem.head _))) w hw) rfl h_11 (by omega)))) (kt_if rfl (fun c37 => ?_) (fun c37 => ?_))
          ·
            refine gk (.cons (.head) (.cons (.head) (.cons (.head) (.cons (.head) (.nil))))) ?_
            refine wg_takep (i := 12) rfl (ov_pick_t rfl rfl) rfl rfl rfl (by kernel_rfl) (by kernel_rfl) (by kernel_rfl) rfl ?_
            refine wg_takep (i := 13) rfl (ov_assign rfl) rfl rfl rfl (by kernel_rfl) (by kernel_rfl) (by kernel_rfl) rfl ?_
            refine wg_done (by kernel_rfl) ?_
            refine ce_then ?_
            refine cw_ret ?_
            refine ce_results (v := .bool true) (res1 rfl (rv_t rfl)) (fun w' hw => ?_)
            exact ⟨rfl, (Keep.nil.ss hw).to_new⟩
          ·
            exact absurd hbd.1.asc c37
        ·
          exact absurd hbd.2 c34
      ·
        refine wl_go rfl rfl ?_
        refine wl_v (ov_not rfl) rfl rfl rfl ?_
        refine wl_v (ov_pick_f rfl rfl) rfl rfl rfl ?_
        refine wl_nil ?_
        refine ce_then ?_
        refine cw_true rfl ?_
        refine cw_seq ?_
        refine cw_region ?_
        refine wl_v (ov_move rfl) rfl rfl rfl ?_
        refine wl_v (ov_loadAgg (vs := [.int .i64 (N_9), .slice A1_9 (es_9.length) (c1_9)]) tI25 (holds_blk (List.Mem.tail _ (List.Mem.tail _ (List.Mem.head _)))) rfl some_lit rfl rfl) rfl rfl rfl ?_
        refine wl_r (or_call (fv := []) (vs := [.agg #[.int .i64 (N_9), .slice A1_9 (es_9.length) (c1_9)]]) (cs := []) en12 rfl rfl (call_x5 (fun w hw => BarS_c w N_9 A1_9 es_9.length c1_9 es_9 ((holds_row (List.Mem.tail _ (List.Mem.tail _ (List.Mem.tail _ (List.Mem.head _))))) w hw) rfl h_9.1 (by omega) (by omega)))) rfl rfl (kt5p rfl (fun A2_24 k2_24 hs9_24 xss9_24 i0_24 h_24 => ?_))
        refine wl_r (or_call (fv := []) (vs := [.slice A2_11 ((barV N_9 es_9).length) (k2_11), .slice A2_24 ((barV N_9 es_9).length) (k2_24)]) (cs := []) en11 rfl rfl (call_v (fun w hw => equalInts_c w A2_11 ((barV N_9 es_9).length) k2_11 (barV N_9 es_9) A2_24 ((barV N_9 es_9).length) k2_24 (barV N_9 es_9) ((holds_row (List.Mem.tail _ (List.Mem.tail _ (List.Mem.head _)))) w hw) rfl h_11 ((holds_pick (List.Mem.head _) h_24.2) w hw) rfl h_24.1 (by omega)))) rfl rfl (kt_if rfl (fun c25 => ?_) (fun c25 => ?_))
        ·
          refine wl_v (ov_assign rfl) rfl rfl rfl ?_
          refine wl_nil ?_
          refine ce_then ?_
          refine cw_ret ?_
          refine ce_then_ret ?_
          refine ce_results (v := .bool true) (res1 rfl (rv_t rfl)) (fun w' hw => ?_)
          exact ⟨rfl, (Keep.nil.ss hw).to_new⟩
        ·
          exact absurd rfl c25
    ·
      exact absurd rfl c15
end Go.Proofs.Ythbfgkeoojghoaa.LFnBarrierOf
