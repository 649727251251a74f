/- Walks of functions of the given program: each returns what its Lean function says and leaves the memory that was there as it was. Conditions: those of each theorem. -/
import Derived.Test.YtfjgfocjogfodaaSm
import Derived.Test.YtfjgfocjogfodaaProg
import Derived.Test.YtfjgfocjogfodaaPl
import Derived.Test.YtfjgfocjogfodaaPo
import Derived.Test.YtfjgfocjogfodaaPd
import Derived.Test.YtfjgfocjogfodaaPe
import Derived.Test.YtfjgfocjogfodaaPh
import Derived.Test.YtfjgfocjogfodaaPm
import Derived.Test.YtfjgfocjogfodaaPc
import Derived.Test.YtfjgfocjogfodaaPs
import Derived.Test.YtfjgfocjogfodaaPt
import Derived.Test.YtfjgfocjogfodaaPu
import Derived.Test.YtfjgfocjogfodaaPv
import Derived.Test.YtfjgfocjogfodaaPw
import Derived.Test.YtfjgfocjogfodaaPx
import Derived.Test.YtfjgfocjogfodaaT
import Derived.Test.YtfjgfocjogfodaaW5
import Derived.Test.YtfjgfocjogfodaaW14
import Derived.Test.YtfjgfocjogfodaaW40
import Derived.Test.YtfjgfocjogfodaaW41
import Derived.KernelRfl
namespace Go.Proofs.Ytfjgfocjogfodaa.LFnDeficiencyOf
open Go.Sx Go.RowKit Go.Proofs.Ytfjgfocjogfodaa.T Go.Proofs.Ytfjgfocjogfodaa.W5 Go.Proofs.Ytfjgfocjogfodaa.W14 Go.Proofs.Ytfjgfocjogfodaa.W40 Go.Proofs.Ytfjgfocjogfodaa.W41
open Go.Plain
set_option linter.unusedVariables false
set_option maxRecDepth 100000 in
theorem FnDeficiencyOf_c (w : World) (Ar : Option Addr) (nr : Nat) (cr : Nat) (bs : List (Nat)) (hAr : At w Ar (cells fY bs)) (eAr : bs.length = nr) (lAr : nr ≤ cr) (hb : ∀ x ∈ bs, x < 256) : Calls Try.prog 3 #[.slice Ar (nr) (cr)] w (Ret fun rv w' => rv = .bool true ∧ New w w' []) := by
  have oAr := hAr.atB
  subst eAr
  refine fn_enter (args := [.slice Ar (bs.length) (cr)]) Try.func3 rfl Try.ntmps3 rfl (SS.start w) ?_
  refine cw_seq ?_
  refine cw_region ?_
  refine wl_v (ov_assign rfl) rfl rfl rfl ?_
  refine wl_nil ?_
  refine ce_then ?_
  refine cw_seq ?_
  refine cw_seq ?_
  refine cw_region ?_
  refine wl_v (ov_move rfl) rfl rfl rfl ?_
  refine wl_v (ov_len (sliceI_spec sI22) rfl) rfl rfl rfl ?_
  refine wl_if (ov_gtr rfl rfl) rfl rfl rfl (fun c7 => ?_) (fun c7 => ?_)
  ·
    refine wl_nil ?_
    refine ce_then ?_
    refine cw_true rfl ?_
    refine cw_seq ?_
    refine cw_region ?_
    refine wl_v (ov_assign rfl) rfl rfl rfl ?_
    refine wl_nil ?_
    refine ce_then ?_
    refine cw_ret ?_
    refine ce_then_ret ?_
    refine ce_results (v := .bool true) (res1 rfl (rv_t rfl)) (fun w' hw => ?_)
    exact ⟨rfl, (Keep.nil.ss hw).to_new⟩
  ·
    refine wl_nil ?_
    refine ce_then ?_
    refine cw_false rfl ?_
    refine cw_skip ?_
    refine ce_then ?_
    refine cw_seq ?_
    refine cw_region ?_
    refine wl_v (ov_move rfl) rfl rfl rfl ?_
    refine wl_r (or_call (fv := []) (vs := [.slice Ar (bs.length) (cr)]) (cs := []) en9 rfl rfl (call_x4 (fun w hw => DrawDef_c w Ar bs.length cr bs ((holds_old oAr) w hw) rfl lAr (by first | assumption | omega | (simp; omega))))) rfl rfl (kt4p rfl (fun N_9 A1_9 c1_9 es_9 h_9 => ?_))
    have hb9 := h_9
    have hml9 := mm_len es_9
    refine wl_r (or_alloc tI25 rfl) rfl rfl (kt1 rfl (fun g3 => ?_))
    refine wl_r0 (or_store_blk (vs := [.int .i64 (N_9), .slice A1_9 (es_9.length) (c1_9)]) (cs' := [.int .i64 (N_9), .slice A1_9 (es_9.length) (c1_9)]) (.head) tI25 rfl rfl rfl rfl (Nat.le_of_ble_eq_true rfl) rfl) rfl rfl (kn0 ?_)
    refine wl_nil ?_
    refine ce_then ?_
    refine cw_seq ?_
    refine cw_region ?_
    refine wl_v (ov_loadAgg (vs := [.int .i64 (N_9), .slice A1_9 (es_9.length) (c1_9)]) tI25 (holds_blk (List.Mem.head _)) rfl some_lit rfl rfl) rfl rfl rfl ?_
    refine wl_r (or_call (fv := []) (vs := [.agg #[.int .i64 (N_9), .slice A1_9 (es_9.length) (c1_9)]]) (cs := []) en10 rfl rfl (call_v (fun w hw => DefI_c w N_9 A1_9 es_9.length c1_9 es_9 ((holds_row (List.Mem.tail _ (List.Mem.head _))) w hw) rfl h_9.1 (by omega) (by omega)))) rfl rfl (kt0 rfl ?_)
    refine wl_v (ov_assign rfl) rfl rfl rfl ?_
    refine wl_nil ?_
    refine ce_then ?_
    refine cw_seq ?_
    refine cw_seq ?_
    refine cw_region ?_
    refine wl_v (ov_move rfl) rfl rfl rfl ?_
    refine wl_v (ov_loadAgg (vs := [.int .i64 (N_9), .slice A1_9 (es_9.length) (c1_9)]) tI25 (holds_blk (List.Mem.head _)) rfl some_lit rfl rfl) rfl rfl rfl ?_
    refine wl_r (or_call (fv := []) (vs := [.agg #[.int .i64 (N_9), .slice A1_9 (es_9.length) (c1_9)]]) (cs := []) en11 rfl rfl (call_v (fun w hw => DefS_c w N_9 A1_9 es_9.length c1_9 es_9 ((holds_row (List.Mem.tail _ (List.Mem.head _))) w hw) rfl h_9.1 (by omega) (by omega)))) rfl rfl (kt0 rfl ?_)
    refine wl_if (ov_neq rfl rfl) rfl rfl rfl (fun c15 => ?_) (fun c15 => ?_)
    ·
      exact absurd rfl c15
    ·
      refine wl_v (ov_move rfl) rfl rfl rfl ?_
      refine wl_go rfl rfl ?_
      refine wl_v (ov_loadAgg (vs := [.int .i64 (N_9), .slice A1_9 (es_9.length) (c1_9)]) tI25 (holds_blk (List.Mem.head _)) rfl some_lit rfl rfl) rfl rfl rfl ?_
      refine wl_go rfl rfl ?_
      refine wl_r (or_call (fv := []) (vs := [.agg #[.int .i64 (N_9), .slice A1_9 (es_9.length) (c1_9)]]) (cs := []) en12 rfl rfl (call_v (fun w hw => validGraphI_c w N_9 A1_9 es_9.length c1_9 es_9 ((holds_row (List.Mem.tail _ (List.Mem.head _))) w hw) rfl h_9.1 (by omega) (by first | assumption | omega | (simp; omega))))) rfl rfl (kt_if rfl (fun c18 => ?_) (fun c18 => ?_))
      ·
        refine wl_go rfl rfl ?_
        refine wl_v (ov_not rfl) rfl rfl rfl ?_
        refine wl_v (ov_pick_f rfl rfl) rfl rfl rfl ?_
        refine wl_nil ?_
        refine ce_then ?_
        refine cw_false rfl ?_
        refine cw_skip ?_
        refine ce_then ?_
        refine cw_seq ?_
        refine cw_draw mixO [] (.cons (.head) (.cons (.head) (.nil))) rfl ?_
        refine wg_takep (i := 0) rfl (ov_move rfl) rfl rfl rfl (by kernel_rfl) (by kernel_rfl) (by kernel_rfl) rfl ?_
        refine wg_take (i := 1) rfl (ov_fieldAddr fI25_0 some_lit rfl) rfl rfl rfl (by kernel_rfl) (by kernel_rfl) (by kernel_rfl) (by kernel_rfl) ?_
        refine wg_take (i := 2) rfl (ov_load tI3 (holds_blk (List.Mem.head _)) rfl rfl) rfl rfl rfl (by kernel_rfl) (by kernel_rfl) (by kernel_rfl) (by kernel_rfl) ?_
        refine wg_take (i := 3) rfl (ov_loadAgg (vs := [.int .i64 (N_9), .slice A1_9 (es_9.length) (c1_9)]) tI25 (holds_blk (List.Mem.head _)) rfl some_lit rfl rfl) rfl rfl rfl (by kernel_rfl) (by kernel_rfl) (by kernel_rfl) (by kernel_rfl) ?_
        refine wg_one (i := 4) (by kernel_rfl) ?_
        refine go_r rfl rfl rfl rfl (or_call (fv := []) (vs := [.agg #[.int .i64 (N_9), .slice A1_9 (es_9.length) (c1_9)]]) (cs := []) en13 rfl rfl (call_v (fun w hw => MatchN_c w N_9 A1_9 es_9.length c1_9 es_9 ((holds_row (List.Mem.tail _ (List.Mem.head _))) w hw) rfl h_9.1 (by omega) (by omega) c18))) (kt0 rfl ?_)
        refine gk (.cons (.head) (.cons (.head) (.nil))) ?_
        refine wg_takep (i := 5) rfl (ov_mul (r := ((2 * (mm es_9) : Nat) : Int)) rfl rfl (by omega) (by omega)) rfl rfl rfl (by kernel_rfl) (by kernel_rfl) (by kernel_rfl) rfl ?_
        refine wg_takep (i := 6) rfl (ov_sub (r := N_9 - ((2 * (mm es_9) : Nat) : Int)) rfl rfl rfl (by omega)) rfl rfl rfl (by kernel_rfl) (by kernel_rfl) (by kernel_rfl) rfl ?_
        refine wg_takep_if (i := 7) rfl (ov_eql rfl rfl) rfl rfl rfl (by kernel_rfl) (by kernel_rfl) (by kernel_rfl) rfl (fun c32 => ?_) (fun c32 => ?_)
        ·
          refine wg_takep (i := 8) rfl (ov_move rfl) rfl rfl rfl (by kernel_rfl) (by kernel_rfl) (by kernel_rfl) rfl ?_
          refine wg_take_go (i := 9) rfl rfl rfl (ov_move rfl) rfl (by kernel_rfl) (by kernel_rfl) (by kernel_rfl) (by kernel_rfl) ?_
          refine wg_take_go (i := 10) rfl rfl rfl (ov_loadAgg (vs := [.int .i64 (N_9), .slice A1_9 (es_9.length) (c1_9)]) tI25 (holds_blk (List.Mem.head _)) rfl some_lit rfl rfl) rfl (by kernel_rfl) (by kernel_rfl) (by kernel_rfl) (by kernel_rfl) ?_
          refine wg_one (i := 11) (by kernel_rfl) ?_
          refine go_rg rfl rfl rfl rfl (or_call (fv := []) (vs := [.agg #[.int .i64 (N_9), .slice A1_9 (es_9.length) (c1_9)], .slice none (0) (0)]) (cs := []) en14 rfl rfl (call_v (fun w hw => OddPartsI_c w N_9 A1_9 es_9.length c1_9 es_9 none 0 0 ([] : List Int) ((holds_row (List.Mem.tail _ (List.Mem.head _))) w hw) rfl h_9.1 ((fun _ _ => At.nil) w hw) (by first | rfl | (simp; done) | (simp; omega)) (Nat.le_refl _) (by simp only [List.length_nil]; omega) (by omega)))) (kt0 rfl ?_)
          refine gk (.cons (.head) (.cons (.head) (.nil))) ?_
          refine wg_take_go_if (i := 12) rfl rfl rfl (ov_geq rfl rfl) rfl (by kernel_rfl) (by kernel_rfl) (by kernel_rfl) (by kernel_rfl) (fun c37 => ?_) (fun c37 => ?_)
          ·
            refine wg_takep (i := 13) rfl (ov_pick_t rfl rfl) rfl rfl rfl (by kernel_rfl) (by kernel_rfl) (by kernel_rfl) rfl ?_
            refine wg_takep (i := 14) rfl (ov_move rfl) rfl rfl rfl (by kernel_rfl) (by kernel_rfl) (by kernel_rfl) rfl ?_
            refine wg_take_go (i := 15) rfl rfl rfl (ov_move rfl) rfl (by kernel_rfl) (by kernel_rfl) (by kernel_rfl) (by kernel_rfl) ?_
            refine wg_take_go_if (i := 16) rfl rfl rfl (ov_geq rfl rfl) rfl (by kernel_rfl) (by kernel_rfl) (by kernel_rfl) (by kernel_rfl) (fun c41 => ?_) (fun c41 => ?_)
            ·
              refine wg_takep (i := 17) rfl (ov_pick_t rfl rfl) rfl rfl rfl (by kernel_rfl) (by kernel_rfl) (by kernel_rfl) rfl ?_
              refine wg_takep (i := 18) rfl (ov_assign rfl) rfl rfl rfl (by kernel_rfl) (by kernel_rfl) (by kernel_rfl) rfl ?_
              refine wg_done (by kernel_rfl) ?_
              refine ce_then ?_
              refine cw_ret ?_
              refine ce_results (v := .bool true) (res1 rfl (rv_t rfl)) (fun w' hw => ?_)
              exact ⟨rfl, (Keep.nil.ss hw).to_new⟩
            ·
              exact absurd (defV_pos c18) c41
          ·
            exact absurd (defV_odd c18) c37
        ·
          exact absurd (by rw [defV, if_pos c18]; omega) c32
      ·
        refine wl_go rfl rfl ?_
        refine wl_v (ov_not rfl) rfl rfl rfl ?_
        refine wl_v (ov_pick_f rfl rfl) rfl rfl rfl ?_
        refine wl_nil ?_
        refine ce_then ?_
        refine cw_true rfl ?_
        refine cw_seq ?_
        refine cw_region ?_
        refine wl_v (ov_move rfl) rfl rfl rfl ?_
        refine wl_v (ov_loadAgg (vs := [.int .i64 (N_9), .slice A1_9 (es_9.length) (c1_9)]) tI25 (holds_blk (List.Mem.head _)) rfl some_lit rfl rfl) rfl rfl rfl ?_
        refine wl_r (or_call (fv := []) (vs := [.agg #[.int .i64 (N_9), .slice A1_9 (es_9.length) (c1_9)]]) (cs := []) en11 rfl rfl (call_v (fun w hw => DefS_c w N_9 A1_9 es_9.length c1_9 es_9 ((holds_row (List.Mem.tail _ (List.Mem.head _))) w hw) rfl h_9.1 (by omega) (by omega)))) rfl rfl (kt0 rfl ?_)
        refine wl_if (ov_eql rfl rfl) rfl rfl rfl (fun c24 => ?_) (fun c24 => ?_)
        ·
          refine wl_v (ov_assign rfl) rfl rfl rfl ?_
          refine wl_nil ?_
          refine ce_then ?_
          refine cw_ret ?_
          refine ce_then_ret ?_
          refine ce_results (v := .bool true) (res1 rfl (rv_t rfl)) (fun w' hw => ?_)
          exact ⟨rfl, (Keep.nil.ss hw).to_new⟩
        ·
          exact absurd rfl c24
end Go.Proofs.Ytfjgfocjogfodaa.LFnDeficiencyOf
