/- Walks of functions of the given program: each returns what its Lean function says and leaves the memory that was there as it was. Conditions: those of each theorem. -/
import Derived.Test.YtfjgfocjogfodaaSm
import Derived.Test.YtfjgfocjogfodaaProg
import Derived.Test.YtfjgfocjogfodaaPl
import Derived.Test.YtfjgfocjogfodaaPo
import Derived.Test.YtfjgfocjogfodaaPd
import Derived.Test.YtfjgfocjogfodaaPe
import Derived.Test.YtfjgfocjogfodaaPh
import Derived.Test.YtfjgfocjogfodaaPm
import Derived.Test.YtfjgfocjogfodaaPc
import Derived.Test.YtfjgfocjogfodaaPs
import Derived.Test.YtfjgfocjogfodaaPt
import Derived.Test.YtfjgfocjogfodaaPu
import Derived.Test.YtfjgfocjogfodaaPv
import Derived.Test.YtfjgfocjogfodaaPw
import Derived.Test.YtfjgfocjogfodaaPx
import Derived.Test.YtfjgfocjogfodaaT
import Derived.Test.YtfjgfocjogfodaaW14
import Derived.Test.YtfjgfocjogfodaaW40
import Derived.KernelRfl
namespace Go.Proofs.Ytfjgfocjogfodaa.LFnOddParts
open Go.Sx Go.RowKit Go.Proofs.Ytfjgfocjogfodaa.T Go.Proofs.Ytfjgfocjogfodaa.W14 Go.Proofs.Ytfjgfocjogfodaa.W40
open Go.Plain
set_option linter.unusedVariables false
set_option maxRecDepth 100000 in
theorem FnOddParts_c (w : World) (Ar : Option Addr) (nr : Nat) (cr : Nat) (bs : List (Nat)) (hAr : At w Ar (cells fY bs)) (eAr : bs.length = nr) (lAr : nr ≤ cr) (hb : ∀ x ∈ bs, x < 256) : Calls Try.prog 4 #[.slice Ar (nr) (cr)] w (Ret fun rv w' => rv = .bool true ∧ New w w' []) := by
  have oAr := hAr.atB
  subst eAr
  refine fn_enter (args := [.slice Ar (bs.length) (cr)]) Try.func4 rfl Try.ntmps4 rfl (SS.start w) ?_
  refine cw_seq ?_
  refine cw_region ?_
  refine wl_v (ov_assign rfl) rfl rfl rfl ?_
  refine wl_nil ?_
  refine ce_then ?_
  refine cw_seq ?_
  refine cw_seq ?_
  refine cw_region ?_
  refine wl_v (ov_move rfl) rfl rfl rfl ?_
  refine wl_v (ov_len (sliceI_spec sI22) rfl) rfl rfl rfl ?_
  refine wl_if (ov_gtr rfl rfl) rfl rfl rfl (fun c8 => ?_) (fun c8 => ?_)
  ·
    refine wl_nil ?_
    refine ce_then ?_
    refine cw_true rfl ?_
    refine cw_seq ?_
    refine cw_region ?_
    refine wl_v (ov_assign rfl) rfl rfl rfl ?_
    refine wl_nil ?_
    refine ce_then ?_
    refine cw_ret ?_
    refine ce_then_ret ?_
    refine ce_results (v := .bool true) (res1 rfl (rv_t rfl)) (fun w' hw => ?_)
    exact ⟨rfl, (Keep.nil.ss hw).to_new⟩
  ·
    refine wl_nil ?_
    refine ce_then ?_
    refine cw_false rfl ?_
    refine cw_skip ?_
    refine ce_then ?_
    refine cw_seq ?_
    refine cw_region ?_
    refine wl_v (ov_move rfl) rfl rfl rfl ?_
    refine wl_r (or_call (fv := []) (vs := [.slice Ar (bs.length) (cr)]) (cs := []) en15 rfl rfl (call_x7 (fun w hw => DrawOddParts_c w Ar bs.length cr bs ((holds_old oAr) w hw) rfl lAr (by first | assumption | omega | (simp; omega))))) rfl rfl (kt7p rfl (fun N_11 A1_11 c1_11 es_11 A2_11 c2_11 ss_11 h_11 => ?_))
    have hb11 := h_11.1
    refine wl_v (ov_move rfl) rfl rfl rfl ?_
    refine wl_v (ov_extract rfl rfl) rfl rfl rfl ?_
    refine wl_v (ov_extract rfl rfl) rfl rfl rfl ?_
    refine wl_r (or_alloc tI25 rfl) rfl rfl (kt1 rfl (fun g3 => ?_))
    refine wl_r0 (or_store_blk (vs := [.int .i64 (N_11), .slice A1_11 (es_11.length) (c1_11)]) (cs' := [.int .i64 (N_11), .slice A1_11 (es_11.length) (c1_11)]) (.head) tI25 rfl rfl rfl rfl (Nat.le_of_ble_eq_true rfl) rfl) rfl rfl (kn0 ?_)
    refine wl_v (ov_assign rfl) rfl rfl rfl ?_
    refine wl_nil ?_
    refine ce_then ?_
    refine cw_seq ?_
    refine cw_region ?_
    refine wl_v (ov_loadAgg (vs := [.int .i64 (N_11), .slice A1_11 (es_11.length) (c1_11)]) tI25 (holds_blk (List.Mem.head _)) rfl some_lit rfl rfl) rfl rfl rfl ?_
    refine wl_v (ov_move rfl) rfl rfl rfl ?_
    refine wl_r (or_call (fv := []) (vs := [.agg #[.int .i64 (N_11), .slice A1_11 (es_11.length) (c1_11)], .slice A2_11 (ss_11.length) (c2_11)]) (cs := []) en14 rfl rfl (call_v (fun w hw => OddPartsI_c w N_11 A1_11 es_11.length c1_11 es_11 A2_11 ss_11.length c2_11 ss_11 ((holds_row (List.Mem.tail _ (List.Mem.head _))) w hw) rfl h_11.1.1 ((holds_row (List.Mem.tail _ (List.Mem.tail _ (List.Mem.head _)))) w hw) rfl h_11.2.1 (by omega) (by omega)))) rfl rfl (kt0 rfl ?_)
    refine wl_v (ov_assign rfl) rfl rfl rfl ?_
    refine wl_nil ?_
    refine ce_then ?_
    refine cw_seq ?_
    refine cw_seq ?_
    refine cw_region ?_
    refine wl_v (ov_move rfl) rfl rfl rfl ?_
    refine wl_v (ov_loadAgg (vs := [.int .i64 (N_11), .slice A1_11 (es_11.length) (c1_11)]) tI25 (holds_blk (List.Mem.head _)) rfl some_lit rfl rfl) rfl rfl rfl ?_
    refine wl_v (ov_move rfl) rfl rfl rfl ?_
    refine wl_r (or_call (fv := []) (vs := [.agg #[.int .i64 (N_11), .slice A1_11 (es_11.length) (c1_11)], .slice A2_11 (ss_11.length) (c2_11)]) (cs := []) en16 rfl rfl (call_v (fun w hw => OddPartsS_c w N_11 A1_11 es_11.length c1_11 es_11 A2_11 ss_11.length c2_11 ss_11 ((holds_row (List.Mem.tail _ (List.Mem.head _))) w hw) rfl h_11.1.1 ((holds_row (List.Mem.tail _ (List.Mem.tail _ (List.Mem.head _)))) w hw) rfl h_11.2.1 (by omega)))) rfl rfl (kt0 rfl ?_)
    refine wl_if (ov_neq rfl rfl) rfl rfl rfl (fun c21 => ?_) (fun c21 => ?_)
    ·
      exact absurd rfl c21
    ·
      refine wl_v (ov_move rfl) rfl rfl rfl ?_
      refine wl_go rfl rfl ?_
      refine wl_v (ov_move rfl) rfl rfl rfl ?_
      refine wl_go rfl rfl ?_
      refine wl_if (ov_lss rfl rfl) rfl rfl rfl (fun c24 => ?_) (fun c24 => ?_)
      ·
        refine wl_v (ov_pick_f rfl rfl) rfl rfl rfl ?_
        refine wl_nil ?_
        refine ce_then ?_
        refine cw_true rfl ?_
        refine cw_seq ?_
        refine cw_region ?_
        refine wl_v (ov_move rfl) rfl rfl rfl ?_
        refine wl_v (ov_loadAgg (vs := [.int .i64 (N_11), .slice A1_11 (es_11.length) (c1_11)]) tI25 (holds_blk (List.Mem.head _)) rfl some_lit rfl rfl) rfl rfl rfl ?_
        refine wl_v (ov_move rfl) rfl rfl rfl ?_
        refine wl_r (or_call (fv := []) (vs := [.agg #[.int .i64 (N_11), .slice A1_11 (es_11.length) (c1_11)], .slice A2_11 (ss_11.length) (c2_11)]) (cs := []) en16 rfl rfl (call_v (fun w hw => OddPartsS_c w N_11 A1_11 es_11.length c1_11 es_11 A2_11 ss_11.length c2_11 ss_11 ((holds_row (List.Mem.tail _ (List.Mem.head _))) w hw) rfl h_11.1.1 ((holds_row (List.Mem.tail _ (List.Mem.tail _ (List.Mem.head _)))) w hw) rfl h_11.2.1 (by omega)))) rfl rfl (kt0 rfl ?_)
        refine wl_if (ov_eql rfl rfl) rfl rfl rfl (fun c30 => ?_) (fun c30 => ?_)
        ·
          refine wl_v (ov_assign rfl) rfl rfl rfl ?_
          refine wl_nil ?_
          refine ce_then ?_
          refine cw_ret ?_
          refine ce_then_ret ?_
          refine ce_results (v := .bool true) (res1 rfl (rv_t rfl)) (fun w' hw => ?_)
          exact ⟨rfl, (Keep.nil.ss hw).to_new⟩
        ·
          exact absurd rfl c30
      ·
        have hv := oddV_yes c24
        have hov : oddV N_11 es_11 ss_11 = oddP N_11.toNat es_11 ss_11 := if_pos hv
        have hob := oddP_bd (n := N_11.toNat) (es := es_11) (s := ss_11)
        refine wl_v (ov_pick_f rfl rfl) rfl rfl rfl ?_
        refine wl_nil ?_
        refine ce_then ?_
        refine cw_false rfl ?_
        refine cw_skip ?_
        refine ce_then ?_
        refine cw_seq ?_
        refine cw_region ?_
        refine wl_v (ov_move rfl) rfl rfl rfl ?_
        refine wl_v (ov_move rfl) rfl rfl rfl ?_
        refine wl_v (ov_len (sliceI_spec sI31) rfl) rfl rfl rfl ?_
        refine wl_v (ov_add (r := (oddV N_11 es_11 ss_11) + ((ss_11.length : Nat) : Int)) rfl rfl rfl (by omega)) rfl rfl rfl ?_
        refine wl_v (ov_fieldAddr fI25_0 some_lit rfl) rfl rfl rfl ?_
        refine wl_v (ov_load tI3 (holds_blk (List.Mem.head _)) rfl rfl) rfl rfl rfl ?_
        refine wl_v (ov_sub (r := ((oddV N_11 es_11 ss_11) + ((ss_11.length : Nat) : Int)) - N_11) rfl rfl rfl (by omega)) rfl rfl rfl ?_
        refine wl_v (ov_remt (r := (((oddV N_11 es_11 ss_11) + ((ss_11.length : Nat) : Int)) - N_11).tmod 2) rfl rfl (by omega) rfl) rfl rfl rfl ?_
        refine wl_if (ov_eql rfl rfl) rfl rfl rfl (fun c39 => ?_) (fun c39 => ?_)
        ·
          refine wl_v (ov_move rfl) rfl rfl rfl ?_
          refine wl_go rfl rfl ?_
          refine wl_v (ov_move rfl) rfl rfl rfl ?_
          refine wl_go rfl rfl ?_
          refine wl_v (ov_move rfl) rfl rfl rfl ?_
          refine wl_go rfl rfl ?_
          refine wl_v (ov_len (sliceI_spec sI31) rfl) rfl rfl rfl ?_
          refine wl_go rfl rfl ?_
          refine wl_v (ov_sub (r := (oddV N_11 es_11 ss_11) - ((ss_11.length : Nat) : Int)) rfl rfl rfl (by omega)) rfl rfl rfl ?_
          refine wl_go rfl rfl ?_
          refine wl_v (ov_loadAgg (vs := [.int .i64 (N_11), .slice A1_11 (es_11.length) (c1_11)]) tI25 (holds_blk (List.Mem.head _)) rfl some_lit rfl rfl) rfl rfl rfl ?_
          refine wl_go rfl rfl ?_
          refine wl_r (or_call (fv := []) (vs := [.agg #[.int .i64 (N_11), .slice A1_11 (es_11.length) (c1_11)]]) (cs := []) en10 rfl rfl (call_v (fun w hw => DefI_c w N_11 A1_11 es_11.length c1_11 es_11 ((holds_row (List.Mem.tail _ (List.Mem.head _))) w hw) rfl h_11.1.1 (by omega) (by omega)))) rfl rfl (kt0 rfl ?_)
          refine wl_go rfl rfl ?_
          refine wl_if (ov_leq rfl rfl) rfl rfl rfl (fun c47 => ?_) (fun c47 => ?_)
          ·
            refine wl_v (ov_pick_t rfl rfl) rfl rfl rfl ?_
            refine wl_v (ov_assign rfl) rfl rfl rfl ?_
            refine wl_nil ?_
            refine ce_then ?_
            refine cw_ret ?_
            refine ce_results (v := .bool true) (res1 rfl (rv_t rfl)) (fun w' hw => ?_)
            exact ⟨rfl, (Keep.nil.ss hw).to_new⟩
          ·
            exact absurd (by rw [hov]; exact odd_def hv) c47
        ·
          exact absurd (by rw [hov]; exact odd_tmod hv) c39
end Go.Proofs.Ytfjgfocjogfodaa.LFnOddParts
