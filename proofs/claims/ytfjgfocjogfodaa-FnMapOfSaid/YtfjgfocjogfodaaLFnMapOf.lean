/- Walks of functions of the given program: each returns what its Lean function says and leaves the memory that was there as it was. Conditions: those of each theorem. -/
import Derived.Test.YtfjgfocjogfodaaSm
import Derived.Test.YtfjgfocjogfodaaProg
import Derived.Test.YtfjgfocjogfodaaPl
import Derived.Test.YtfjgfocjogfodaaPo
import Derived.Test.YtfjgfocjogfodaaPd
import Derived.Test.YtfjgfocjogfodaaPe
import Derived.Test.YtfjgfocjogfodaaPh
import Derived.Test.YtfjgfocjogfodaaPm
import Derived.Test.YtfjgfocjogfodaaPc
import Derived.Test.YtfjgfocjogfodaaPs
import Derived.Test.YtfjgfocjogfodaaPt
import Derived.Test.YtfjgfocjogfodaaPu
import Derived.Test.YtfjgfocjogfodaaPv
import Derived.Test.YtfjgfocjogfodaaPw
import Derived.Test.YtfjgfocjogfodaaPx
import Derived.Test.YtfjgfocjogfodaaPy
import Derived.Test.YtfjgfocjogfodaaPz
import Derived.Test.YtfjgfocjogfodaaPr
import Derived.Test.YtfjgfocjogfodaaT
import Derived.Test.YtfjgfocjogfodaaW5
import Derived.Test.YtfjgfocjogfodaaW12
import Derived.Test.YtfjgfocjogfodaaW15
import Derived.Test.YtfjgfocjogfodaaW39
import Derived.Test.YtfjgfocjogfodaaW43
import Derived.KernelRfl
namespace Go.Proofs.Ytfjgfocjogfodaa.LFnMapOf
open Go.Sx Go.RowKit Go.Proofs.Ytfjgfocjogfodaa.T Go.Proofs.Ytfjgfocjogfodaa.W5 Go.Proofs.Ytfjgfocjogfodaa.W12 Go.Proofs.Ytfjgfocjogfodaa.W15 Go.Proofs.Ytfjgfocjogfodaa.W39 Go.Proofs.Ytfjgfocjogfodaa.W43
open Go.Plain
set_option linter.unusedVariables false
set_option maxRecDepth 100000 in
theorem FnMapOf_c (w : World) (Ar : Option Addr) (nr : Nat) (cr : Nat) (bs : List (Nat)) (hAr : At w Ar (cells fY bs)) (eAr : bs.length = nr) (lAr : nr ≤ cr) (hb : ∀ x ∈ bs, x < 256) : Calls Try.prog 7 #[.slice Ar (nr) (cr)] w (Ret fun rv w' => rv = .bool true ∧ New w w' []) := by
  have oAr := hAr.atB
  subst eAr
  refine fn_enter (args := [.slice Ar (bs.length) (cr)]) Try.func7 rfl Try.ntmps7 rfl (SS.start w) ?_
  refine cw_seq ?_
  refine cw_region ?_
  refine wl_v (ov_assign rfl) rfl rfl rfl ?_
  refine wl_nil ?_
  refine ce_then ?_
  refine cw_seq ?_
  refine cw_seq ?_
  refine cw_region ?_
  refine wl_v (ov_move rfl) rfl rfl rfl ?_
  refine wl_v (ov_len (sliceI_spec sI22) rfl) rfl rfl rfl ?_
  refine wl_if (ov_gtr rfl rfl) rfl rfl rfl (fun c18 => ?_) (fun c18 => ?_)
  ·
    refine wl_nil ?_
    refine ce_then ?_
    refine cw_true rfl ?_
    refine cw_seq ?_
    refine cw_region ?_
    refine wl_v (ov_assign rfl) rfl rfl rfl ?_
    refine wl_nil ?_
    refine ce_then ?_
    refine cw_ret ?_
    refine ce_then_ret ?_
    refine ce_results (v := .bool true) (res1 rfl (rv_t rfl)) (fun w' hw => ?_)
    exact ⟨rfl, (Keep.nil.ss hw).to_new⟩
  ·
    refine wl_nil ?_
    refine ce_then ?_
    refine cw_false rfl ?_
    refine cw_skip ?_
    refine ce_then ?_
    refine cw_seq ?_
    refine cw_region ?_
    refine wl_v (ov_move rfl) rfl rfl rfl ?_
    refine wl_r (or_call (fv := []) (vs := [.slice Ar (bs.length) (cr)]) (cs := []) en32 rfl rfl (call_x8 (fun w hw => DrawMapOf_c w Ar bs.length cr bs ((holds_old oAr) w hw) rfl lAr (by first | assumption | omega | (simp; omega))))) rfl rfl (kt8p rfl (fun m_21 A1_21 c1_21 es_21 N2_21 A2_21 c2_21 fs_21 h_21 => ?_))
    have hb21 := h_21
    have hm1 := mapV_len ((m_21 : Nat) : Int) es_21 N2_21 fs_21
    have hm2 := mapV_len N2_21 fs_21 ((m_21 : Nat) : Int) es_21
    have hm3 := mapV_len ((m_21 : Nat) : Int) es_21 ((m_21 : Nat) : Int) es_21
    refine wl_v (ov_move rfl) rfl rfl rfl ?_
    refine wl_v (ov_extract rfl rfl) rfl rfl rfl ?_
    refine wl_v (ov_extract rfl rfl) rfl rfl rfl ?_
    refine wl_r (or_alloc tI25 rfl) rfl rfl (kt1 rfl (fun g3 => ?_))
    refine wl_r (or_alloc tI25 rfl) rfl rfl (kt1 rfl (fun g4 => ?_))
    refine wl_r0 (or_store_blk (vs := [.int .i64 (((m_21 : Nat) : Int)), .slice A1_21 (es_21.length) (c1_21)]) (cs' := [.int .i64 (((m_21 : Nat) : Int)), .slice A1_21 (es_21.length) (c1_21)]) (.tail .head) tI25 rfl rfl rfl rfl (Nat.le_of_ble_eq_true rfl) rfl) rfl rfl (kn0 ?_)
    refine wl_r0 (or_store_blk (vs := [.int .i64 (N2_21), .slice A2_21 (fs_21.length) (c2_21)]) (cs' := [.int .i64 (N2_21), .slice A2_21 (fs_21.length) (c2_21)]) (.tail .head) tI25 rfl rfl rfl rfl (Nat.le_of_ble_eq_true rfl) rfl) rfl rfl (kn0 ?_)
    refine wl_nil ?_
    refine ce_then ?_
    refine cw_seq ?_
    refine cw_region ?_
    refine wl_v (ov_loadAgg (vs := [.int .i64 (((m_21 : Nat) : Int)), .slice A1_21 (es_21.length) (c1_21)]) tI25 (holds_blk (List.Mem.tail _ (List.Mem.head _))) rfl some_lit rfl rfl) rfl rfl rfl ?_
    refine wl_v (ov_loadAgg (vs := [.int .i64 (N2_21), .slice A2_21 (fs_21.length) (c2_21)]) tI25 (holds_blk (List.Mem.head _)) rfl some_lit rfl rfl) rfl rfl rfl ?_
    refine wl_r (or_call (fv := []) (vs := [.agg #[.int .i64 (((m_21 : Nat) : Int)), .slice A1_21 (es_21.length) (c1_21)], .agg #[.int .i64 (N2_21), .slice A2_21 (fs_21.length) (c2_21)]]) (cs := []) en33 rfl rfl (call_x3 (fun w hw => MapOfI_c w ((m_21 : Nat) : Int) A1_21 es_21.length c1_21 es_21 N2_21 A2_21 fs_21.length c2_21 fs_21 ((holds_row (List.Mem.tail _ (List.Mem.tail _ (List.Mem.head _)))) w hw) rfl h_21.1.2.1 ((holds_row (List.Mem.tail _ (List.Mem.tail _ (List.Mem.tail _ (List.Mem.head _))))) w hw) rfl h_21.2.1 (by omega) (by omega)))) rfl rfl (kt3p rfl (fun A3_27 c3_27 c4_27 h_27 => ?_))
    refine wl_v (ov_move rfl) rfl rfl rfl ?_
    refine wl_v (ov_extract rfl rfl) rfl rfl rfl ?_
    refine wl_v (ov_extract rfl rfl) rfl rfl rfl ?_
    refine wl_v (ov_assign rfl) rfl rfl rfl ?_
    refine wl_v (ov_assign rfl) rfl rfl rfl ?_
    refine wl_nil ?_
    refine ce_then ?_
    refine cw_seq ?_
    refine cw_region ?_
    refine wl_v (ov_loadAgg (vs := [.int .i64 (((m_21 : Nat) : Int)), .slice A1_21 (es_21.length) (c1_21)]) tI25 (holds_blk (List.Mem.tail _ (List.Mem.tail _ (List.Mem.head _)))) rfl some_lit rfl rfl) rfl rfl rfl ?_
    refine wl_v (ov_loadAgg (vs := [.int .i64 (N2_21), .slice A2_21 (fs_21.length) (c2_21)]) tI25 (holds_blk (List.Mem.tail _ (List.Mem.head _))) rfl some_lit rfl rfl) rfl rfl rfl ?_
    refine wl_r (or_call (fv := []) (vs := [.agg #[.int .i64 (((m_21 : Nat) : Int)), .slice A1_21 (es_21.length) (c1_21)], .agg #[.int .i64 (N2_21), .slice A2_21 (fs_21.length) (c2_21)]]) (cs := []) en34 rfl rfl (call_x3 (fun w hw => MapOfS_c w ((m_21 : Nat) : Int) A1_21 es_21.length c1_21 es_21 N2_21 A2_21 fs_21.length c2_21 fs_21 ((holds_row (List.Mem.tail _ (List.Mem.tail _ (List.Mem.tail _ (List.Mem.head _))))) w hw) rfl h_21.1.2.1 ((holds_row (List.Mem.tail _ (List.Mem.tail _ (List.Mem.tail _ (List.Mem.tail _ (List.Mem.head _)))))) w hw) rfl h_21.2.1 (by omega) (by omega)))) rfl rfl (kt3p rfl (fun A3_33 c3_33 c4_33 h_33 => ?_))
    refine wl_v (ov_move rfl) rfl rfl rfl ?_
    refine wl_v (ov_extract rfl rfl) rfl rfl rfl ?_
    refine wl_v (ov_extract rfl rfl) rfl rfl rfl ?_
    refine wl_v (ov_assign rfl) rfl rfl rfl ?_
    refine wl_v (ov_assign rfl) rfl rfl rfl ?_
    refine wl_nil ?_
    refine ce_then ?_
    refine cw_seq ?_
    refine cw_seq ?_
    refine cw_region ?_
    refine wl_v (ov_move rfl) rfl rfl rfl ?_
    refine wl_v (ov_move rfl) rfl rfl rfl ?_
    refine wl_r (or_call (fv := []) (vs := [.slice A3_27 ((mapV ((m_21 : Nat) : Int) es_21 N2_21 fs_21).1.length) (c3_27), .slice A3_33 ((mapV ((m_21 : Nat) : Int) es_21 N2_21 fs_21).1.length) (c3_33)]) (cs := []) en31 rfl rfl (call_v (fun w hw => equalInts_c w A3_27 ((mapV ((m_21 : Nat) : Int) es_21 N2_21 fs_21).1.length) c3_27 ((mapV ((m_21 : Nat) : Int) es_21 N2_21 fs_21).1) A3_33 ((mapV ((m_21 : Nat) : Int) es_21 N2_21 fs_21).1.length) c3_33 ((mapV ((m_21 : Nat) : Int) es_21 N2_21 fs_21).1) ((holds_row (List.Mem.tail _ (List.Mem.head _))) w hw) rfl h_27 ((holds_row (List.Mem.head _)) w hw) rfl h_33 (by omega)))) rfl rfl (kt_if rfl (fun c38 => ?_) (fun c38 => ?_))
    ·
      refine wl_v (ov_not rfl) rfl rfl rfl ?_
      refine wl_v (ov_move rfl) rfl rfl rfl ?_
      refine wl_go rfl rfl ?_
      refine wl_v (ov_move rfl) rfl rfl rfl ?_
      refine wl_go rfl rfl ?_
      refine wl_v (ov_move rfl) rfl rfl rfl ?_
      refine wl_go rfl rfl ?_
      refine wl_if (OpV.dec (ov_neqb uI4 rfl rfl)) rfl rfl rfl (fun c43 => ?_) (fun c43 => ?_)
      ·
        (exfalso; simp at c43)
      ·
        refine wl_v (ov_pick_f rfl rfl) rfl rfl rfl ?_
        refine wl_v (ov_move rfl) rfl rfl rfl ?_
        refine wl_go rfl rfl ?_
        refine wl_v (ov_loadAgg (vs := [.int .i64 (((m_21 : Nat) : Int)), .slice A1_21 (es_21.length) (c1_21)]) tI25 (holds_blk (List.Mem.tail _ (List.Mem.tail _ (List.Mem.tail _ (List.Mem.head _))))) rfl some_lit rfl rfl) rfl rfl rfl ?_
        refine wl_go rfl rfl ?_
        refine wl_r (or_call (fv := []) (vs := [.agg #[.int .i64 (((m_21 : Nat) : Int)), .slice A1_21 (es_21.length) (c1_21)]]) (cs := []) en12 rfl rfl (call_v (fun w hw => validGraphI_c w ((m_21 : Nat) : Int) A1_21 es_21.length c1_21 es_21 ((holds_row (List.Mem.tail _ (List.Mem.tail _ (List.Mem.tail _ (List.Mem.tail _ (List.Mem.head _)))))) w hw) rfl h_21.1.2.1 (by first | assumption | omega | (simp; omega)) (by first | assumption | omega | (simp; omega))))) rfl rfl (kt_if rfl (fun c47 => ?_) (fun c47 => ?_))
        ·
          refine wl_go rfl rfl ?_
          refine wl_v (ov_not rfl) rfl rfl rfl ?_
          refine wl_v (ov_pick_f rfl rfl) rfl rfl rfl ?_
          refine wl_v (ov_move rfl) rfl rfl rfl ?_
          refine wl_go rfl rfl ?_
          refine wl_v (ov_loadAgg (vs := [.int .i64 (N2_21), .slice A2_21 (fs_21.length) (c2_21)]) tI25 (holds_blk (List.Mem.tail _ (List.Mem.tail _ (List.Mem.head _)))) rfl some_lit rfl rfl) rfl rfl rfl ?_
          refine wl_go rfl rfl ?_
          refine wl_r (or_call (fv := []) (vs := [.agg #[.int .i64 (N2_21), .slice A2_21 (fs_21.length) (c2_21)]]) (cs := []) en12 rfl rfl (call_v (fun w hw => validGraphI_c w N2_21 A2_21 fs_21.length c2_21 fs_21 ((holds_row (List.Mem.tail _ (List.Mem.tail _ (List.Mem.tail _ (List.Mem.tail _ (List.Mem.tail _ (List.Mem.head _))))))) w hw) rfl h_21.2.1 (by first | assumption | omega | (simp; omega)) (by first | assumption | omega | (simp; omega))))) rfl rfl (kt_if rfl (fun c52 => ?_) (fun c52 => ?_))
          ·
            refine wl_go rfl rfl ?_
            refine wl_v (ov_not rfl) rfl rfl rfl ?_
            refine wl_v (ov_pick_f rfl rfl) rfl rfl rfl ?_
            refine wl_v (ov_move rfl) rfl rfl rfl ?_
            refine wl_go rfl rfl ?_
            refine wl_v (ov_fieldAddr fI25_0 some_lit rfl) rfl rfl rfl ?_
            refine wl_go rfl rfl ?_
            refine wl_v (ov_load tI3 (holds_blk (List.Mem.tail _ (List.Mem.tail _ (List.Mem.tail _ (List.Mem.head _))))) rfl rfl) rfl rfl rfl ?_
            refine wl_go rfl rfl ?_
            refine wl_v (ov_fieldAddr fI25_0 some_lit rfl) rfl rfl rfl ?_
            refine wl_go rfl rfl ?_
            refine wl_v (ov_load tI3 (holds_blk (List.Mem.tail _ (List.Mem.tail _ (List.Mem.head _)))) rfl rfl) rfl rfl rfl ?_
            refine wl_go rfl rfl ?_
            refine wl_if (ov_neq rfl rfl) rfl rfl rfl (fun c60 => ?_) (fun c60 => ?_)
            ·
              refine wl_v (ov_pick_f rfl rfl) rfl rfl rfl ?_
              refine wl_v (ov_move rfl) rfl rfl rfl ?_
              refine wl_not rfl rfl rfl rfl rfl rfl ?_
              refine wl_not rfl rfl rfl rfl rfl rfl ?_
              refine wl_not rfl rfl rfl rfl rfl rfl ?_
              refine wl_v (ov_pick_t rfl rfl) rfl rfl rfl ?_
              refine wl_nil ?_
              refine ce_then ?_
              refine cw_true rfl ?_
              refine cw_seq ?_
              refine cw_region ?_
              refine wl_v (ov_move rfl) rfl rfl rfl ?_
              refine wl_v (ov_move rfl) rfl rfl rfl ?_
              refine wl_r (or_call (fv := []) (vs := [.slice A3_27 ((mapV ((m_21 : Nat) : Int) es_21 N2_21 fs_21).1.length) (c3_27), .slice A3_33 ((mapV ((m_21 : Nat) : Int) es_21 N2_21 fs_21).1.length) (c3_33)]) (cs := []) en31 rfl rfl (call_v (fun w hw => equalInts_c w A3_27 ((mapV ((m_21 : Nat) : Int) es_21 N2_21 fs_21).1.length) c3_27 ((mapV ((m_21 : Nat) : Int) es_21 N2_21 fs_21).1) A3_33 ((mapV ((m_21 : Nat) : Int) es_21 N2_21 fs_21).1.length) c3_33 ((mapV ((m_21 : Nat) : Int) es_21 N2_21 fs_21).1) ((holds_row (List.Mem.tail _ (List.Mem.head _))) w hw) rfl h_27 ((holds_row (List.Mem.head _)) w hw) rfl h_33 (by omega)))) rfl rfl (kt_if rfl (fun c69 => ?_) (fun c69 => ?_))
              ·
                refine wl_v (ov_move rfl) rfl rfl rfl ?_
                refine wl_go rfl rfl ?_
                refine wl_v (ov_move rfl) rfl rfl rfl ?_
                refine wl_go rfl rfl ?_
                refine wl_v (ov_move rfl) rfl rfl rfl ?_
                refine wl_go rfl rfl ?_
                refine wl_if (OpV.dec (ov_eqlb uI4 rfl rfl)) rfl rfl rfl (fun c73 => ?_) (fun c73 => ?_)
                ·
                  refine wl_v (ov_pick_t rfl rfl) rfl rfl rfl ?_
                  refine wl_v (ov_assign rfl) rfl rfl rfl ?_
                  refine wl_nil ?_
                  refine ce_then ?_
                  refine cw_ret ?_
                  refine ce_then_ret ?_
                  refine ce_results (v := .bool true) (res1 rfl (rv_t rfl)) (fun w' hw => ?_)
                  exact ⟨rfl, (Keep.nil.ss hw).to_new⟩
                ·
                  (exfalso; simp at c73)
              ·
                exact absurd rfl c69
            ·
              refine wl_v (ov_pick_f rfl rfl) rfl rfl rfl ?_
              refine wl_v (ov_move rfl) rfl rfl rfl ?_
              refine wl_go rfl rfl ?_
              refine wl_v (ov_fieldAddr fI25_0 some_lit rfl) rfl rfl rfl ?_
              refine wl_go rfl rfl ?_
              refine wl_v (ov_load tI3 (holds_blk (List.Mem.tail _ (List.Mem.tail _ (List.Mem.tail _ (List.Mem.head _))))) rfl rfl) rfl rfl rfl ?_
              refine wl_go rfl rfl ?_
              refine wl_if (ov_gtr rfl rfl) rfl rfl rfl (fun c65 => ?_) (fun c65 => ?_)
              ·
                refine wl_v (ov_pick_f rfl rfl) rfl rfl rfl ?_
                refine wl_nil ?_
                refine ce_then ?_
                refine cw_true rfl ?_
                refine cw_seq ?_
                refine cw_region ?_
                refine wl_v (ov_move rfl) rfl rfl rfl ?_
                refine wl_v (ov_move rfl) rfl rfl rfl ?_
                refine wl_r (or_call (fv := []) (vs := [.slice A3_27 ((mapV ((m_21 : Nat) : Int) es_21 N2_21 fs_21).1.length) (c3_27), .slice A3_33 ((mapV ((m_21 : Nat) : Int) es_21 N2_21 fs_21).1.length) (c3_33)]) (cs := []) en31 rfl rfl (call_v (fun w hw => equalInts_c w A3_27 ((mapV ((m_21 : Nat) : Int) es_21 N2_21 fs_21).1.length) c3_27 ((mapV ((m_21 : Nat) : Int) es_21 N2_21 fs_21).1) A3_33 ((mapV ((m_21 : Nat) : Int) es_21 N2_21 fs_21).1.length) c3_33 ((mapV ((m_21 : Nat) : Int) es_21 N2_21 fs_21).1) ((holds_row (List.Mem.tail _ (List.Mem.head _))) w hw) rfl h_27 ((holds_row (List.Mem.head _)) w hw) rfl h_33 (by omega)))) rfl rfl (kt_if rfl (fun c69 => ?_) (fun c69 => ?_))
                ·
                  refine wl_v (ov_move rfl) rfl rfl rfl ?_
                  refine wl_go rfl rfl ?_
                  refine wl_v (ov_move rfl) rfl rfl rfl ?_
                  refine wl_go rfl rfl ?_
                  refine wl_v (ov_move rfl) rfl rfl rfl ?_
                  refine wl_go rfl rfl ?_
                  refine wl_if (OpV.dec (ov_eqlb uI4 rfl rfl)) rfl rfl rfl (fun c73 => ?_) (fun c73 => ?_)
                  ·
                    refine wl_v (ov_pick_t rfl rfl) rfl rfl rfl ?_
                    refine wl_v (ov_assign rfl) rfl rfl rfl ?_
                    refine wl_nil ?_
                    refine ce_then ?_
                    refine cw_ret ?_
                    refine ce_then_ret ?_
                    refine ce_results (v := .bool true) (res1 rfl (rv_t rfl)) (fun w' hw => ?_)
                    exact ⟨rfl, (Keep.nil.ss hw).to_new⟩
                  ·
                    (exfalso; simp at c73)
                ·
                  exact absurd rfl c69
              ·
                refine wl_v (ov_pick_f rfl rfl) rfl rfl rfl ?_
                refine wl_nil ?_
                refine ce_then ?_
                refine cw_false rfl ?_
                refine cw_skip ?_
                refine ce_then ?_
                refine cw_seq ?_
                refine cw_region ?_
                refine wl_v (ov_loadAgg (vs := [.int .i64 (N2_21), .slice A2_21 (fs_21.length) (c2_21)]) tI25 (holds_blk (List.Mem.tail _ (List.Mem.tail _ (List.Mem.head _)))) rfl some_lit rfl rfl) rfl rfl rfl ?_
                refine wl_v (ov_loadAgg (vs := [.int .i64 (((m_21 : Nat) : Int)), .slice A1_21 (es_21.length) (c1_21)]) tI25 (holds_blk (List.Mem.tail _ (List.Mem.tail _ (List.Mem.tail _ (List.Mem.head _))))) rfl some_lit rfl rfl) rfl rfl rfl ?_
                refine wl_r (or_call (fv := []) (vs := [.agg #[.int .i64 (N2_21), .slice A2_21 (fs_21.length) (c2_21)], .agg #[.int .i64 (((m_21 : Nat) : Int)), .slice A1_21 (es_21.length) (c1_21)]]) (cs := []) en33 rfl rfl (call_x3 (fun w hw => MapOfI_c w N2_21 A2_21 fs_21.length c2_21 fs_21 ((m_21 : Nat) : Int) A1_21 es_21.length c1_21 es_21 ((holds_row (List.Mem.tail _ (List.Mem.tail _ (List.Mem.tail _ (List.Mem.tail _ (List.Mem.tail _ (List.Mem.head _))))))) w hw) rfl h_21.2.1 ((holds_row (List.Mem.tail _ (List.Mem.tail _ (List.Mem.tail _ (List.Mem.tail _ (List.Mem.head _)))))) w hw) rfl h_21.1.2.1 (by omega) (by omega)))) rfl rfl (kt3p rfl (fun A3_78 c3_78 c4_78 h_78 => ?_))
                refine wl_v (ov_move rfl) rfl rfl rfl ?_
                refine wl_v (ov_extract rfl rfl) rfl rfl rfl ?_
                refine wl_v (ov_extract rfl rfl) rfl rfl rfl ?_
                refine wl_v (ov_assign rfl) rfl rfl rfl ?_
                refine wl_v (ov_assign rfl) rfl rfl rfl ?_
                refine wl_nil ?_
                refine ce_then ?_
                refine cw_seq ?_
                refine cw_region ?_
                refine wl_v (ov_loadAgg (vs := [.int .i64 (((m_21 : Nat) : Int)), .slice A1_21 (es_21.length) (c1_21)]) tI25 (holds_blk (List.Mem.tail _ (List.Mem.tail _ (List.Mem.tail _ (List.Mem.tail _ (List.Mem.head _)))))) rfl some_lit rfl rfl) rfl rfl rfl ?_
                refine wl_v (ov_loadAgg (vs := [.int .i64 (((m_21 : Nat) : Int)), .slice A1_21 (es_21.length) (c1_21)]) tI25 (holds_blk (List.Mem.tail _ (List.Mem.tail _ (List.Mem.tail _ (List.Mem.tail _ (List.Mem.head _)))))) rfl some_lit rfl rfl) rfl rfl rfl ?_
                refine wl_r (or_call (fv := []) (vs := [.agg #[.int .i64 (((m_21 : Nat) : Int)), .slice A1_21 (es_21.length) (c1_21)], .agg #[.int .i64 (((m_21 : Nat) : Int)), .slice A1_21 (es_21.length) (c1_21)]]) (cs := []) en33 rfl rfl (call_x3 (fun w hw => MapOfI_c w ((m_21 : Nat) : Int) A1_21 es_21.length c1_21 es_21 ((m_21 : Nat) : Int) A1_21 es_21.length c1_21 es_21 ((holds_row (List.Mem.tail _ (List.Mem.tail _ (List.Mem.tail _ (List.Mem.tail _ (List.Mem.tail _ (List.Mem.head _))))))) w hw) rfl h_21.1.2.1 ((holds_row (List.Mem.tail _ (List.Mem.tail _ (List.Mem.tail _ (List.Mem.tail _ (List.Mem.tail _ (List.Mem.head _))))))) w hw) rfl h_21.1.2.1 (by omega) (by omega)))) rfl rfl (kt3p rfl (fun A3_84 c3_84 c4_84 h_84 => ?_))
                refine wl_v (ov_move rfl) rfl rfl rfl ?_
                refine wl_v (ov_extract rfl rfl) rfl rfl rfl ?_
                refine wl_v (ov_extract rfl rfl) rfl rfl rfl ?_
                refine wl_v (ov_assign rfl) rfl rfl rfl ?_
                refine wl_v (ov_assign rfl) rfl rfl rfl ?_
                refine wl_nil ?_
                refine ce_then ?_
                refine cw_seq ?_
                refine cw_seq ?_
                have hmf := mapV_facts c47 c52 (by omega) (by omega)
                have hsl : (mapV ((m_21 : Nat) : Int) es_21 ((m_21 : Nat) : Int) es_21).1.length = m_21 := by rw [hmf.2.1]; exact ids_length _
                refine cw_region ?_
                refine wl_v (ov_assign rfl) rfl rfl rfl ?_
                refine wl_nil ?_
                refine ce_then ?_
                refine cw_block ?_
                refine cw_loop1 (fun (k : Nat) => [(3, elp (some ⟨g3, 0, none⟩) (0)), (4, elp (some ⟨g4, 0, none⟩) (0)), (5, .slice A3_27 ((mapV ((m_21 : Nat) : Int) es_21 N2_21 fs_21).1.length) (c3_27)), (6, .bool ((mapV ((m_21 : Nat) : Int) es_21 N2_21 fs_21).2)), (10, .bool ((mapV N2_21 fs_21 ((m_21 : Nat) : Int) es_21).2)), (11, .slice A3_84 ((mapV ((m_21 : Nat) : Int) es_21 ((m_21 : Nat) : Int) es_21).1.length) (c3_84)), (12, .bool ((mapV ((m_21 : Nat) : Int) es_21 ((m_21 : Nat) : Int) es_21).2)), (13, .int .i64 (((k : Nat) : Int)))]) (fun (k : Nat) => [row 3 1 A3_84 ((mapV ((m_21 : Nat) : Int) es_21 ((m_21 : Nat) : Int) es_21).1.length) (c4_84) (cells fI ((mapV ((m_21 : Nat) : Int) es_21 ((m_21 : Nat) : Int) es_21).1)), row 3 1 A3_78 ((mapV N2_21 fs_21 ((m_21 : Nat) : Int) es_21).1.length) (c4_78) (cells fI ((mapV N2_21 fs_21 ((m_21 : Nat) : Int) es_21).1)), row 3 1 A3_33 ((mapV ((m_21 : Nat) : Int) es_21 N2_21 fs_21).1.length) (c4_33) (cells fI ((mapV ((m_21 : Nat) : Int) es_21 N2_21 fs_21).1)), row 3 1 A3_27 ((mapV ((m_21 : Nat) : Int) es_21 N2_21 fs_21).1.length) (c4_27) (cells fI ((mapV ((m_21 : Nat) : Int) es_21 N2_21 fs_21).1)), blk g4 [.int .i64 (N2_21), .slice A2_21 (fs_21.length) (c2_21)] 25, blk g3 [.int .i64 (((m_21 : Nat) : Int)), .slice A1_21 (es_21.length) (c1_21)] 25, row 43 2 A1_21 (es_21.length) (c1_21) (cells fE es_21), row 43 2 A2_21 (fs_21.length) (c2_21) (cells fE fs_21)]) (fun (k : Nat) => True) (fun (k : Nat) => (mapV ((m_21 : Nat) : Int) es_21 ((m_21 : Nat) : Int) es_21).1.length - k) 0 trivial (.cons rfl (.cons rfl (.cons rfl (.cons rfl (.cons rfl (.cons rfl (.cons rfl (.cons (congrArg (fun z => some (Value.int .i64 z)) (show 0 = ((0 : Nat) : Int) by first | omega | rfl | (simp; done))) (.nil))))))))) (.cons (.head) (.cons (.head) (.cons (.head) (.cons (.head) (.cons (.head) (.cons (.head) (.cons (.head) (.cons (.head) (.nil))))))))) ?_
                intro R0 k hk hR0
                refine cw_seq ?_
                refine cw_seq ?_
                refine cw_region ?_
                refine wl_v (ov_move rfl) rfl rfl rfl ?_
                refine wl_v (ov_move rfl) rfl rfl rfl ?_
                refine wl_v (ov_len (sliceI_spec sI31) rfl) rfl rfl rfl ?_
                refine wl_if (ov_lss rfl rfl) rfl rfl rfl (fun c90 => ?_) (fun c90 => ?_)
                ·
                  refine wl_nil ?_
                  refine ce_then ?_
                  refine cw_true rfl ?_
                  refine cw_skip ?_
                  refine ce_then ?_
                  refine cw_seq ?_
                  refine cw_block ?_
                  refine cw_seq ?_
                  refine cw_region ?_
                  refine wl_v (ov_move rfl) rfl rfl rfl ?_
                  refine wl_v (ov_move rfl) rfl rfl rfl ?_
                  refine wl_v (ov_index (k := k) (c := c3_84) sI31 tI3 rfl rfl (some_holds (q := k * 1) (holds_row (List.Mem.head _)) (by rw [cells_length fI_len]; have hlt : k < ((mapV ((m_21 : Nat) : Int) es_21 ((m_21 : Nat) : Int) es_21).1).length := (by omega); omega)) (show k < (mapV ((m_21 : Nat) : Int) es_21 ((m_21 : Nat) : Int) es_21).1.length from (by omega))) rfl rfl rfl ?_
                  refine wl_v (ov_load tI3 (holds_row (List.Mem.head _)) rfl (get_fI (show k < ((mapV ((m_21 : Nat) : Int) es_21 ((m_21 : Nat) : Int) es_21).1).length from (by omega)))) rfl rfl rfl ?_
                  refine wl_v (ov_move rfl) rfl rfl rfl ?_
                  refine wl_if (ov_neq rfl rfl) rfl rfl rfl (fun c98 => ?_) (fun c98 => ?_)
                  ·
                    exact absurd (by rw [hmf.2.1]; exact ids_get (by omega)) c98
                  ·
                    refine wl_nil ?_
                    refine ce_then ?_
                    refine cw_false rfl ?_
                    refine cw_skip ?_
                    refine ce_block ?_
                    refine ce_then ?_
                    refine cw_region ?_
                    refine wl_v (ov_move rfl) rfl rfl rfl ?_
                    refine wl_v (ov_add (r := ((k + 1 : Nat) : Int)) rfl rfl rfl (by omega)) rfl rfl rfl ?_
                    refine wl_v (ov_assign rfl) rfl rfl rfl ?_
                    refine wl_nil ?_
                    exact fun ac_ w_ hs_ => hR0 (k + 1) trivial (by omega) ac_ w_ (hs_.weaken (.cons rfl (.cons rfl (.cons rfl (.cons rfl (.cons rfl (.cons rfl (.cons rfl (.cons rfl (.nil))))))))) (.cons (.head) (.cons (.head) (.cons (.head) (.cons (.head) (.cons (.head) (.cons (.head) (.cons (.head) (.cons (.head) (.nil))))))))))
                ·
                  refine wl_nil ?_
                  refine ce_then ?_
                  refine cw_false rfl ?_
                  refine cw_exit ?_
                  refine ce_then_exit ?_
                  refine ce_then_exit ?_
                  refine ce_hit ?_
                  refine ce_then ?_
                  refine cw_seq ?_
                  refine cw_seq ?_
                  refine cw_region ?_
                  refine wl_v (ov_move rfl) rfl rfl rfl ?_
                  refine wl_if (OpV.dec (ov_not rfl)) rfl rfl rfl (fun c100 => ?_) (fun c100 => ?_)
                  ·
                    refine wl_nil ?_
                    refine ce_then ?_
                    refine cw_true rfl ?_
                    refine cw_seq ?_
                    refine cw_region ?_
                    refine wl_v (ov_move rfl) rfl rfl rfl ?_
                    refine wl_if (OpV.dec (ov_not rfl)) rfl rfl rfl (fun c102 => ?_) (fun c102 => ?_)
                    ·
                      refine wl_v (ov_move rfl) rfl rfl rfl ?_
                      refine wl_go rfl rfl ?_
                      refine wl_v (ov_move rfl) rfl rfl rfl ?_
                      refine wl_v (ov_pick_t rfl rfl) rfl rfl rfl ?_
                      refine wl_v (ov_assign rfl) rfl rfl rfl ?_
                      refine wl_nil ?_
                      refine ce_then ?_
                      refine cw_ret ?_
                      refine ce_then_ret ?_
                      refine ce_results (v := .bool ((mapV ((m_21 : Nat) : Int) es_21 ((m_21 : Nat) : Int) es_21).2)) (res1 rfl (rv_t rfl)) (fun w' hw => ?_)
                      exact ⟨(by rw [hmf.2.1]), (Keep.nil.ss hw).to_new⟩
                    ·
                      (exfalso; rw [hmf.1] at c102; exact c102 c100)
                  ·
                    have hok := hmf.2.2 (by simpa using c100)
                    have hol := hok.1
                    refine wl_nil ?_
                    refine ce_then ?_
                    refine cw_false rfl ?_
                    refine cw_skip ?_
                    refine ce_then ?_
                    refine cw_seq ?_
                    refine cw_seq ?_
                    refine cw_region ?_
                    refine wl_v (ov_assign rfl) rfl rfl rfl ?_
                    refine wl_nil ?_
                    refine ce_then ?_
                    refine cw_block ?_
                    refine cw_loop1 (fun (a : Nat) => [(3, elp (some ⟨g3, 0, none⟩) (0)), (4, elp (some ⟨g4, 0, none⟩) (0)), (5, .slice A3_27 ((mapV ((m_21 : Nat) : Int) es_21 N2_21 fs_21).1.length) (c3_27)), (10, .bool ((mapV N2_21 fs_21 ((m_21 : Nat) : Int) es_21).2)), (11, .slice A3_84 ((mapV ((m_21 : Nat) : Int) es_21 ((m_21 : Nat) : Int) es_21).1.length) (c3_84)), (12, .bool ((mapV ((m_21 : Nat) : Int) es_21 ((m_21 : Nat) : Int) es_21).2)), (14, .int .i64 (((a : Nat) : Int)))]) (fun (a : Nat) => [row 3 1 A3_84 ((mapV ((m_21 : Nat) : Int) es_21 ((m_21 : Nat) : Int) es_21).1.length) (c4_84) (cells fI ((mapV ((m_21 : Nat) : Int) es_21 ((m_21 : Nat) : Int) es_21).1)), row 3 1 A3_78 ((mapV N2_21 fs_21 ((m_21 : Nat) : Int) es_21).1.length) (c4_78) (cells fI ((mapV N2_21 fs_21 ((m_21 : Nat) : Int) es_21).1)), row 3 1 A3_33 ((mapV ((m_21 : Nat) : Int) es_21 N2_21 fs_21).1.length) (c4_33) (cells fI ((mapV ((m_21 : Nat) : Int) es_21 N2_21 fs_21).1)), row 3 1 A3_27 ((mapV ((m_21 : Nat) : Int) es_21 N2_21 fs_21).1.length) (c4_27) (cells fI ((mapV ((m_21 : Nat) : Int) es_21 N2_21 fs_21).1)), blk g4 [.int .i64 (N2_21), .slice A2_21 (fs_21.length) (c2_21)] 25, blk g3 [.int .i64 (((m_21 : Nat) : Int)), .slice A1_21 (es_21.length) (c1_21)] 25, row 43 2 A1_21 (es_21.length) (c1_21) (cells fE es_21), row 43 2 A2_21 (fs_21.length) (c2_21) (cells fE fs_21)]) (fun (a : Nat) => True) (fun (a : Nat) => m_21 - a) 0 trivial (.cons rfl (.cons rfl (.cons rfl (.cons rfl (.cons rfl (.cons rfl (.cons (congrArg (fun z => some (Value.int .i64 z)) (show 0 = ((0 : Nat) : Int) by first | omega | rfl | (simp; done))) (.nil)))))))) (.cons (.head) (.cons (.head) (.cons (.head) (.cons (.head) (.cons (.head) (.cons (.head) (.cons (.head) (.cons (.head) (.nil))))))))) ?_
                    intro R1 a hk1 hR1
                    refine cw_seq ?_
                    refine cw_seq ?_
                    refine cw_region ?_
                    refine wl_v (ov_move rfl) rfl rfl rfl ?_
                    refine wl_v (ov_fieldAddr fI25_0 some_lit rfl) rfl rfl rfl ?_
                    refine wl_v (ov_load tI3 (holds_blk (List.Mem.tail _ (List.Mem.tail _ (List.Mem.tail _ (List.Mem.tail _ (List.Mem.tail _ (List.Mem.head _))))))) rfl rfl) rfl rfl rfl ?_
                    refine wl_if (ov_lss rfl rfl) rfl rfl rfl (fun c109 => ?_) (fun c109 => ?_)
                    ·
                      refine wl_nil ?_
                      refine ce_then ?_
                      refine cw_true rfl ?_
                      refine cw_skip ?_
                      refine ce_then ?_
                      refine cw_seq ?_
                      refine cw_block ?_
                      refine cw_seq ?_
                      refine cw_region ?_
                      refine wl_v (ov_assign rfl) rfl rfl rfl ?_
                      refine wl_nil ?_
                      refine ce_then ?_
                      refine cw_block ?_
                      refine cw_loop1 (fun (b : Nat) => [(3, elp (some ⟨g3, 0, none⟩) (0)), (4, elp (some ⟨g4, 0, none⟩) (0)), (5, .slice A3_27 ((mapV ((m_21 : Nat) : Int) es_21 N2_21 fs_21).1.length) (c3_27)), (10, .bool ((mapV N2_21 fs_21 ((m_21 : Nat) : Int) es_21).2)), (11, .slice A3_84 ((mapV ((m_21 : Nat) : Int) es_21 ((m_21 : Nat) : Int) es_21).1.length) (c3_84)), (12, .bool ((mapV ((m_21 : Nat) : Int) es_21 ((m_21 : Nat) : Int) es_21).2)), (14, .int .i64 (((a : Nat) : Int))), (15, .int .i64 (((b : Nat) : Int)))]) (fun (b : Nat) => [row 3 1 A3_84 ((mapV ((m_21 : Nat) : Int) es_21 ((m_21 : Nat) : Int) es_21).1.length) (c4_84) (cells fI ((mapV ((m_21 : Nat) : Int) es_21 ((m_21 : Nat) : Int) es_21).1)), row 3 1 A3_78 ((mapV N2_21 fs_21 ((m_21 : Nat) : Int) es_21).1.length) (c4_78) (cells fI ((mapV N2_21 fs_21 ((m_21 : Nat) : Int) es_21).1)), row 3 1 A3_33 ((mapV ((m_21 : Nat) : Int) es_21 N2_21 fs_21).1.length) (c4_33) (cells fI ((mapV ((m_21 : Nat) : Int) es_21 N2_21 fs_21).1)), row 3 1 A3_27 ((mapV ((m_21 : Nat) : Int) es_21 N2_21 fs_21).1.length) (c4_27) (cells fI ((mapV ((m_21 : Nat) : Int) es_21 N2_21 fs_21).1)), blk g4 [.int .i64 (N2_21), .slice A2_21 (fs_21.length) (c2_21)] 25, blk g3 [.int .i64 (((m_21 : Nat) : Int)), .slice A1_21 (es_21.length) (c1_21)] 25, row 43 2 A1_21 (es_21.length) (c1_21) (cells fE es_21), row 43 2 A2_21 (fs_21.length) (c2_21) (cells fE fs_21)]) (fun (b : Nat) => b ≤ a) (fun (b : Nat) => a - b) 0 (by omega) (.cons rfl (.cons rfl (.cons rfl (.cons rfl (.cons rfl (.cons rfl (.cons rfl (.cons (congrArg (fun z => some (Value.int .i64 z)) (show 0 = ((0 : Nat) : Int) by first | omega | rfl | (simp; done))) (.nil))))))))) (.cons (.head) (.cons (.head) (.cons (.head) (.cons (.head) (.cons (.head) (.cons (.head) (.cons (.head) (.cons (.head) (.nil))))))))) ?_
                      intro R2 b hk2 hR2
                      refine cw_seq ?_
                      refine cw_seq ?_
                      refine cw_region ?_
                      refine wl_v (ov_move rfl) rfl rfl rfl ?_
                      refine wl_v (ov_move rfl) rfl rfl rfl ?_
                      refine wl_if (ov_lss rfl rfl) rfl rfl rfl (fun c114 => ?_) (fun c114 => ?_)
                      ·
                        refine wl_nil ?_
                        refine ce_then ?_
                        refine cw_true rfl ?_
                        refine cw_skip ?_
                        refine ce_then ?_
                        refine cw_seq ?_
                        refine cw_block ?_
                        refine cw_seq ?_
                        refine cw_draw mixO [] (.cons (.head) (.cons (.head) (.cons (.head) (.cons (.head) (.cons (.head) (.cons (.head) (.cons (.head) (.cons (.head) (.nil))))))))) rfl ?_
                        refine wg_takep (i := 0) rfl (ov_move rfl) rfl rfl rfl (by kernel_rfl) (by kernel_rfl) (by kernel_rfl) rfl ?_
                        refine wg_takep (i := 1) rfl (ov_move rfl) rfl rfl rfl (by kernel_rfl) (by kernel_rfl) (by kernel_rfl) rfl ?_
                        refine wg_take (i := 2) rfl (ov_index (k := a) (c := c3_27) sI31 tI3 rfl rfl (some_holds (q := a * 1) (holds_row (List.Mem.tail _ (List.Mem.tail _ (List.Mem.tail _ (List.Mem.head _))))) (by rw [cells_length fI_len]; have hlt : a < ((mapV ((m_21 : Nat) : Int) es_21 N2_21 fs_21).1).length := (by omega); omega)) (show a < (mapV ((m_21 : Nat) : Int) es_21 N2_21 fs_21).1.length from (by omega))) rfl rfl rfl (by kernel_rfl) (by kernel_rfl) (by kernel_rfl) (by kernel_rfl) ?_
                        refine wg_take (i := 3) rfl (ov_load tI3 (holds_row (List.Mem.tail _ (List.Mem.tail _ (List.Mem.tail _ (List.Mem.head _))))) rfl (get_fI (show a < ((mapV ((m_21 : Nat) : Int) es_21 N2_21 fs_21).1).length from (by omega)))) rfl rfl rfl (by kernel_rfl) (by kernel_rfl) (by kernel_rfl) (by kernel_rfl) ?_
                        refine wg_takep (i := 4) rfl (ov_move rfl) rfl rfl rfl (by kernel_rfl) (by kernel_rfl) (by kernel_rfl) rfl ?_
                        refine wg_takep (i := 5) rfl (ov_move rfl) rfl rfl rfl (by kernel_rfl) (by kernel_rfl) (by kernel_rfl) rfl ?_
                        refine wg_take (i := 6) rfl (ov_index (k := b) (c := c3_27) sI31 tI3 rfl rfl (some_holds (q := b * 1) (holds_row (List.Mem.tail _ (List.Mem.tail _ (List.Mem.tail _ (List.Mem.head _))))) (by rw [cells_length fI_len]; have hlt : b < ((mapV ((m_21 : Nat) : Int) es_21 N2_21 fs_21).1).length := (by omega); omega)) (show b < (mapV ((m_21 : Nat) : Int) es_21 N2_21 fs_21).1.length from (by omega))) rfl rfl rfl (by kernel_rfl) (by kernel_rfl) (by kernel_rfl) (by kernel_rfl) ?_
                        refine wg_take (i := 7) rfl (ov_load tI3 (holds_row (List.Mem.tail _ (List.Mem.tail _ (List.Mem.tail _ (List.Mem.head _))))) rfl (get_fI (show b < ((mapV ((m_21 : Nat) : Int) es_21 N2_21 fs_21).1).length from (by omega)))) rfl rfl rfl (by kernel_rfl) (by kernel_rfl) (by kernel_rfl) (by kernel_rfl) ?_
                        refine wg_takep_if (i := 8) rfl (ov_eql rfl rfl) rfl rfl rfl (by kernel_rfl) (by kernel_rfl) (by kernel_rfl) rfl (fun c125 => ?_) (fun c125 => ?_)
                        ·
                          (exfalso; have h9 := hok.2.1 a b (by omega) (by omega) c125; omega)
                        ·
                          have hedge : (min ((a : Nat) : Int) ((b : Nat) : Int), max ((a : Nat) : Int) ((b : Nat) : Int)) ∈ es_21 ↔ (min ((mapV ((m_21 : Nat) : Int) es_21 N2_21 fs_21).1.getD a 0) ((mapV ((m_21 : Nat) : Int) es_21 N2_21 fs_21).1.getD b 0), max ((mapV ((m_21 : Nat) : Int) es_21 N2_21 fs_21).1.getD a 0) ((mapV ((m_21 : Nat) : Int) es_21 N2_21 fs_21).1.getD b 0)) ∈ fs_21 := by rw [Int.min_eq_right (by omega), Int.max_eq_left (by omega)]; exact hok.2.2 a b (by omega) (by omega)
                          refine wg_takep (i := 9) rfl (ov_move rfl) rfl rfl rfl (by kernel_rfl) (by kernel_rfl) (by kernel_rfl) rfl ?_
                          refine wg_take_go (i := 10) rfl rfl rfl (ov_loadAgg (vs := [.int .i64 (((m_21 : Nat) : Int)), .slice A1_21 (es_21.length) (c1_21)]) tI25 (holds_blk (List.Mem.tail _ (List.Mem.tail _ (List.Mem.tail _ (List.Mem.tail _ (List.Mem.tail _ (List.Mem.head _))))))) rfl some_lit rfl rfl) rfl (by kernel_rfl) (by kernel_rfl) (by kernel_rfl) (by kernel_rfl) ?_
                          refine wg_take_go (i := 11) rfl rfl rfl (ov_move rfl) rfl (by kernel_rfl) (by kernel_rfl) (by kernel_rfl) (by kernel_rfl) ?_
                          refine wg_take_go (i := 12) rfl rfl rfl (ov_move rfl) rfl (by kernel_rfl) (by kernel_rfl) (by kernel_rfl) (by kernel_rfl) ?_
                          refine wg_take_go (i := 14) rfl rfl rfl (ov_loadAgg (vs := [.int .i64 (N2_21), .slice A2_21 (fs_21.length) (c2_21)]) tI25 (holds_blk (List.Mem.tail _ (List.Mem.tail _ (List.Mem.tail _ (List.Mem.tail _ (List.Mem.head _)))))) rfl some_lit rfl rfl) rfl (by kernel_rfl) (by kernel_rfl) (by kernel_rfl) (by kernel_rfl) ?_
                          refine wg_take_go (i := 15) rfl rfl rfl (ov_move rfl) rfl (by kernel_rfl) (by kernel_rfl) (by kernel_rfl) (by kernel_rfl) ?_
                          refine wg_take_go (i := 16) rfl rfl rfl (ov_move rfl) rfl (by kernel_rfl) (by kernel_rfl) (by kernel_rfl) (by kernel_rfl) ?_
                          refine wg_take_go (i := 17) rfl rfl rfl (ov_index (k := a) (c := c3_27) sI31 tI3 rfl rfl (some_holds (q := a * 1) (holds_row (List.Mem.tail _ (List.Mem.tail _ (List.Mem.tail _ (List.Mem.head _))))) (by rw [cells_length fI_len]; have hlt : a < ((mapV ((m_21 : Nat) : Int) es_21 N2_21 fs_21).1).length := (by omega); omega)) (show a < (mapV ((m_21 : Nat) : Int) es_21 N2_21 fs_21).1.length from (by omega))) rfl (by kernel_rfl) (by kernel_rfl) (by kernel_rfl) (by kernel_rfl) ?_
                          refine wg_take_go (i := 18) rfl rfl rfl (ov_load tI3 (holds_row (List.Mem.tail _ (List.Mem.tail _ (List.Mem.tail _ (List.Mem.head _))))) rfl (get_fI (show a < ((mapV ((m_21 : Nat) : Int) es_21 N2_21 fs_21).1).length from (by omega)))) rfl (by kernel_rfl) (by kernel_rfl) (by kernel_rfl) (by kernel_rfl) ?_
                          refine wg_take_go (i := 19) rfl rfl rfl (ov_move rfl) rfl (by kernel_rfl) (by kernel_rfl) (by kernel_rfl) (by kernel_rfl) ?_
                          refine wg_take_go (i := 20) rfl rfl rfl (ov_move rfl) rfl (by kernel_rfl) (by kernel_rfl) (by kernel_rfl) (by kernel_rfl) ?_
                          refine wg_take_go (i := 21) rfl rfl rfl (ov_index (k := b) (c := c3_27) sI31 tI3 rfl rfl (some_holds (q := b * 1) (holds_row (List.Mem.tail _ (List.Mem.tail _ (List.Mem.tail _ (List.Mem.head _))))) (by rw [cells_length fI_len]; have hlt : b < ((mapV ((m_21 : Nat) : Int) es_21 N2_21 fs_21).1).length := (by omega); omega)) (show b < (mapV ((m_21 : Nat) : Int) es_21 N2_21 fs_21).1.length from (by omega))) rfl (by kernel_rfl) (by kernel_rfl) (by kernel_rfl) (by kernel_rfl) ?_
                          refine wg_take_go (i := 22) rfl rfl rfl (ov_load tI3 (holds_row (List.Mem.tail _ (List.Mem.tail _ (List.Mem.tail _ (List.Mem.head _))))) rfl (get_fI (show b < ((mapV ((m_21 : Nat) : Int) es_21 N2_21 fs_21).1).length from (by omega)))) rfl (by kernel_rfl) (by kernel_rfl) (by kernel_rfl) (by kernel_rfl) ?_
                          refine wg_one (i := 13) (by kernel_rfl) ?_
                          refine go_rg rfl rfl rfl rfl (or_call (fv := []) (vs := [.agg #[.int .i64 (((m_21 : Nat) : Int)), .slice A1_21 (es_21.length) (c1_21)], .int .i64 (((a : Nat) : Int)), .int .i64 (((b : Nat) : Int))]) (cs := []) en24 rfl rfl (call_v (fun w hw => HasEdgeI_c w ((m_21 : Nat) : Int) A1_21 es_21.length c1_21 es_21 ((a : Nat) : Int) ((b : Nat) : Int) ((holds_row (List.Mem.tail _ (List.Mem.tail _ (List.Mem.tail _ (List.Mem.tail _ (List.Mem.tail _ (List.Mem.tail _ (List.Mem.head _)))))))) w hw) rfl h_21.1.2.1 (by omega) (by omega)))) (kt_if rfl (fun c130 => ?_) (fun c130 => ?_))
                          ·
                            refine gk (.cons (.head) (.cons (.head) (.cons (.head) (.cons (.head) (.cons (.head) (.cons (.head) (.cons (.head) (.cons (.head) (.nil))))))))) ?_
                            refine wg_one (i := 23) (by kernel_rfl) ?_
                            refine go_rg rfl rfl rfl rfl (or_call (fv := []) (vs := [.agg #[.int .i64 (N2_21), .slice A2_21 (fs_21.length) (c2_21)], .int .i64 ((((mapV ((m_21 : Nat) : Int) es_21 N2_21 fs_21).1).getD a 0)), .int .i64 ((((mapV ((m_21 : Nat) : Int) es_21 N2_21 fs_21).1).getD b 0))]) (cs := []) en24 rfl rfl (call_v (fun w hw => HasEdgeI_c w N2_21 A2_21 fs_21.length c2_21 fs_21 (((mapV ((m_21 : Nat) : Int) es_21 N2_21 fs_21).1).getD a 0) (((mapV ((m_21 : Nat) : Int) es_21 N2_21 fs_21).1).getD b 0) ((holds_row (List.Mem.tail _ (List.Mem.tail _ (List.Mem.tail _ (List.Mem.tail _ (List.Mem.tail _ (List.Mem.tail _ (List.Mem.tail _ (List.Mem.head _))))))))) w hw) rfl h_21.2.1 (by omega) (by omega)))) (kt_if rfl (fun c140 => ?_) (fun c140 => ?_))
                            ·
                              refine gk (.cons (.head) (.cons (.head) (.cons (.head) (.cons (.head) (.cons (.head) (.cons (.head) (.cons (.head) (.cons (.head) (.nil))))))))) ?_
                              refine wg_take_go (i := 24) rfl rfl rfl (ov_neqb uI4 rfl rfl) rfl (by kernel_rfl) (by kernel_rfl) (by kernel_rfl) (by kernel_rfl) ?_
                              refine wg_takep (i := 25) rfl (ov_pick_f rfl rfl) rfl rfl rfl (by kernel_rfl) (by kernel_rfl) (by kernel_rfl) rfl ?_
                              refine wg_done (by kernel_rfl) ?_
                              refine ce_then ?_
                              refine cw_false rfl ?_
                              refine cw_skip ?_
                              refine ce_block ?_
                              refine ce_then ?_
                              refine cw_region ?_
                              refine wl_v (ov_move rfl) rfl rfl rfl ?_
                              refine wl_v (ov_add (r := ((b + 1 : Nat) : Int)) rfl rfl rfl (by omega)) rfl rfl rfl ?_
                              refine wl_v (ov_assign rfl) rfl rfl rfl ?_
                              refine wl_nil ?_
                              exact fun ac_ w_ hs_ => hR2 (b + 1) (by omega) (by omega) ac_ w_ (hs_.weaken (.cons rfl (.cons rfl (.cons rfl (.cons rfl (.cons rfl (.cons rfl (.cons rfl (.cons rfl (.nil))))))))) (.cons (.head) (.cons (.head) (.cons (.head) (.cons (.head) (.cons (.head) (.cons (.head) (.cons (.head) (.cons (.head) (.nil))))))))))
                            ·
                              exact absurd ⟨c52, (hedge).1 c130.2⟩ c140
                          ·
                            refine gk (.cons (.head) (.cons (.head) (.cons (.head) (.cons (.head) (.cons (.head) (.cons (.head) (.cons (.head) (.cons (.head) (.nil))))))))) ?_
                            refine wg_one (i := 23) (by kernel_rfl) ?_
                            refine go_rg rfl rfl rfl rfl (or_call (fv := []) (vs := [.agg #[.int .i64 (N2_21), .slice A2_21 (fs_21.length) (c2_21)], .int .i64 ((((mapV ((m_21 : Nat) : Int) es_21 N2_21 fs_21).1).getD a 0)), .int .i64 ((((mapV ((m_21 : Nat) : Int) es_21 N2_21 fs_21).1).getD b 0))]) (cs := []) en24 rfl rfl (call_v (fun w hw => HasEdgeI_c w N2_21 A2_21 fs_21.length c2_21 fs_21 (((mapV ((m_21 : Nat) : Int) es_21 N2_21 fs_21).1).getD a 0) (((mapV ((m_21 : Nat) : Int) es_21 N2_21 fs_21).1).getD b 0) ((holds_row (List.Mem.tail _ (List.Mem.tail _ (List.Mem.tail _ (List.Mem.tail _ (List.Mem.tail _ (List.Mem.tail _ (List.Mem.tail _ (List.Mem.head _))))))))) w hw) rfl h_21.2.1 (by omega) (by omega)))) (kt_if rfl (fun c140 => ?_) (fun c140 => ?_))
                            ·
                              exact absurd ⟨c47, (hedge).2 c140.2⟩ c130
                            ·
                              refine gk (.cons (.head) (.cons (.head) (.cons (.head) (.cons (.head) (.cons (.head) (.cons (.head) (.cons (.head) (.cons (.head) (.nil))))))))) ?_
                              refine wg_take_go (i := 24) rfl rfl rfl (ov_neqb uI4 rfl rfl) rfl (by kernel_rfl) (by kernel_rfl) (by kernel_rfl) (by kernel_rfl) ?_
                              refine wg_takep (i := 25) rfl (ov_pick_f rfl rfl) rfl rfl rfl (by kernel_rfl) (by kernel_rfl) (by kernel_rfl) rfl ?_
                              refine wg_done (by kernel_rfl) ?_
                              refine ce_then ?_
                              refine cw_false rfl ?_
                              refine cw_skip ?_
                              refine ce_block ?_
                              refine ce_then ?_
                              refine cw_region ?_
                              refine wl_v (ov_move rfl) rfl rfl rfl ?_
                              refine wl_v (ov_add (r := ((b + 1 : Nat) : Int)) rfl rfl rfl (by omega)) rfl rfl rfl ?_
                              refine wl_v (ov_assign rfl) rfl rfl rfl ?_
                              refine wl_nil ?_
                              exact fun ac_ w_ hs_ => hR2 (b + 1) (by omega) (by omega) ac_ w_ (hs_.weaken (.cons rfl (.cons rfl (.cons rfl (.cons rfl (.cons rfl (.cons rfl (.cons rfl (.cons rfl (.nil))))))))) (.cons (.head) (.cons (.head) (.cons (.head) (.cons (.head) (.cons (.head) (.cons (.head) (.cons (.head) (.cons (.head) (.nil))))))))))
                      ·
                        refine wl_nil ?_
                        refine ce_then ?_
                        refine cw_false rfl ?_
                        refine cw_exit ?_
                        refine ce_then_exit ?_
                        refine ce_then_exit ?_
                        refine ce_hit ?_
                        refine ce_block ?_
                        refine ce_then ?_
                        refine cw_region ?_
                        refine wl_v (ov_move rfl) rfl rfl rfl ?_
                        refine wl_v (ov_add (r := ((a + 1 : Nat) : Int)) rfl rfl rfl (by omega)) rfl rfl rfl ?_
                        refine wl_v (ov_assign rfl) rfl rfl rfl ?_
                        refine wl_nil ?_
                        exact fun ac_ w_ hs_ => hR1 (a + 1) trivial (by omega) ac_ w_ (hs_.weaken (.cons rfl (.cons rfl (.cons rfl (.cons rfl (.cons rfl (.cons rfl (.cons rfl (.nil)))))))) (.cons (.head) (.cons (.head) (.cons (.head) (.cons (.head) (.cons (.head) (.cons (.head) (.cons (.head) (.cons (.head) (.nil))))))))))
                    ·
                      refine wl_nil ?_
                      refine ce_then ?_
                      refine cw_false rfl ?_
                      refine cw_exit ?_
                      refine ce_then_exit ?_
                      refine ce_then_exit ?_
                      refine ce_hit ?_
                      refine ce_then ?_
                      refine cw_seq ?_
                      refine cw_region ?_
                      refine wl_v (ov_move rfl) rfl rfl rfl ?_
                      refine wl_v (ov_move rfl) rfl rfl rfl ?_
                      refine ct_bool (i := 144) rfl (fun b144 => ?_) (fun b144 => ?_)
                      ·
                        refine wl_go rfl rfl ?_
                        refine wl_v (ov_move rfl) rfl rfl rfl ?_
                        refine wl_v (ov_pick_t rfl rfl) rfl rfl rfl ?_
                        refine wl_v (ov_move rfl) rfl rfl rfl ?_
                        refine ct_bool (i := 147) rfl (fun b147 => ?_) (fun b147 => ?_)
                        ·
                          refine wl_go rfl rfl ?_
                          refine wl_v (ov_move rfl) rfl rfl rfl ?_
                          refine wl_go rfl rfl ?_
                          refine wl_v (ov_len (sliceI_spec sI31) rfl) rfl rfl rfl ?_
                          refine wl_go rfl rfl ?_
                          refine wl_v (ov_fieldAddr fI25_0 some_lit rfl) rfl rfl rfl ?_
                          refine wl_go rfl rfl ?_
                          refine wl_v (ov_load tI3 (holds_blk (List.Mem.tail _ (List.Mem.tail _ (List.Mem.tail _ (List.Mem.tail _ (List.Mem.tail _ (List.Mem.head _))))))) rfl rfl) rfl rfl rfl ?_
                          refine wl_go rfl rfl ?_
                          refine wl_if (ov_eql rfl rfl) rfl rfl rfl (fun c152 => ?_) (fun c152 => ?_)
                          ·
                            refine wl_v (ov_pick_t rfl rfl) rfl rfl rfl ?_
                            refine wl_v (ov_assign rfl) rfl rfl rfl ?_
                            refine wl_nil ?_
                            refine ce_then ?_
                            refine cw_ret ?_
                            refine ce_results (v := .bool true) (res1 rfl (rv_t rfl)) (fun w' hw => ?_)
                            exact ⟨rfl, (Keep.nil.ss hw).to_new⟩
                          ·
                            (exfalso; omega)
                        ·
                          (exfalso; rw [hmf.2.1] at b147; cases b147)
                      ·
                        (exfalso; rw [hmf.1] at b144; rw [b144] at c100; exact c100 rfl)
          ·
            refine wl_go rfl rfl ?_
            refine wl_v (ov_not rfl) rfl rfl rfl ?_
            refine wl_v (ov_pick_f rfl rfl) rfl rfl rfl ?_
            refine wl_v (ov_move rfl) rfl rfl rfl ?_
            refine wl_not rfl rfl rfl rfl rfl rfl ?_
            refine wl_not rfl rfl rfl rfl rfl rfl ?_
            refine wl_not rfl rfl rfl rfl rfl rfl ?_
            refine wl_not rfl rfl rfl rfl rfl rfl ?_
            refine wl_not rfl rfl rfl rfl rfl rfl ?_
            refine wl_v (ov_pick_t rfl rfl) rfl rfl rfl ?_
            refine wl_v (ov_move rfl) rfl rfl rfl ?_
            refine wl_not rfl rfl rfl rfl rfl rfl ?_
            refine wl_not rfl rfl rfl rfl rfl rfl ?_
            refine wl_not rfl rfl rfl rfl rfl rfl ?_
            refine wl_v (ov_pick_t rfl rfl) rfl rfl rfl ?_
            refine wl_nil ?_
            refine ce_then ?_
            refine cw_true rfl ?_
            refine cw_seq ?_
            refine cw_region ?_
            refine wl_v (ov_move rfl) rfl rfl rfl ?_
            refine wl_v (ov_move rfl) rfl rfl rfl ?_
            refine wl_r (or_call (fv := []) (vs := [.slice A3_27 ((mapV ((m_21 : Nat) : Int) es_21 N2_21 fs_21).1.length) (c3_27), .slice A3_33 ((mapV ((m_21 : Nat) : Int) es_21 N2_21 fs_21).1.length) (c3_33)]) (cs := []) en31 rfl rfl (call_v (fun w hw => equalInts_c w A3_27 ((mapV ((m_21 : Nat) : Int) es_21 N2_21 fs_21).1.length) c3_27 ((mapV ((m_21 : Nat) : Int) es_21 N2_21 fs_21).1) A3_33 ((mapV ((m_21 : Nat) : Int) es_21 N2_21 fs_21).1.length) c3_33 ((mapV ((m_21 : Nat) : Int) es_21 N2_21 fs_21).1) ((holds_row (List.Mem.tail _ (List.Mem.head _))) w hw) rfl h_27 ((holds_row (List.Mem.head _)) w hw) rfl h_33 (by omega)))) rfl rfl (kt_if rfl (fun c69 => ?_) (fun c69 => ?_))
            ·
              refine wl_v (ov_move rfl) rfl rfl rfl ?_
              refine wl_go rfl rfl ?_
              refine wl_v (ov_move rfl) rfl rfl rfl ?_
              refine wl_go rfl rfl ?_
              refine wl_v (ov_move rfl) rfl rfl rfl ?_
              refine wl_go rfl rfl ?_
              refine wl_if (OpV.dec (ov_eqlb uI4 rfl rfl)) rfl rfl rfl (fun c73 => ?_) (fun c73 => ?_)
              ·
                refine wl_v (ov_pick_t rfl rfl) rfl rfl rfl ?_
                refine wl_v (ov_assign rfl) rfl rfl rfl ?_
                refine wl_nil ?_
                refine ce_then ?_
                refine cw_ret ?_
                refine ce_then_ret ?_
                refine ce_results (v := .bool true) (res1 rfl (rv_t rfl)) (fun w' hw => ?_)
                exact ⟨rfl, (Keep.nil.ss hw).to_new⟩
              ·
                (exfalso; simp at c73)
            ·
              exact absurd rfl c69
        ·
          refine wl_go rfl rfl ?_
          refine wl_v (ov_not rfl) rfl rfl rfl ?_
          refine wl_v (ov_pick_f rfl rfl) rfl rfl rfl ?_
          refine wl_v (ov_move rfl) rfl rfl rfl ?_
          refine wl_not rfl rfl rfl rfl rfl rfl ?_
          refine wl_not rfl rfl rfl rfl rfl rfl ?_
          refine wl_not rfl rfl rfl rfl rfl rfl ?_
          refine wl_v (ov_pick_t rfl rfl) rfl rfl rfl ?_
          refine wl_v (ov_move rfl) rfl rfl rfl ?_
          refine wl_not rfl rfl rfl rfl rfl rfl ?_
          refine wl_not rfl rfl rfl rfl rfl rfl ?_
          refine wl_not rfl rfl rfl rfl rfl rfl ?_
          refine wl_not rfl rfl rfl rfl rfl rfl ?_
          refine wl_not rfl rfl rfl rfl rfl rfl ?_
          refine wl_v (ov_pick_t rfl rfl) rfl rfl rfl ?_
          refine wl_v (ov_move rfl) rfl rfl rfl ?_
          refine wl_not rfl rfl rfl rfl rfl rfl ?_
          refine wl_not rfl rfl rfl rfl rfl rfl ?_
          refine wl_not rfl rfl rfl rfl rfl rfl ?_
          refine wl_v (ov_pick_t rfl rfl) rfl rfl rfl ?_
          refine wl_nil ?_
          refine ce_then ?_
          refine cw_true rfl ?_
          refine cw_seq ?_
          refine cw_region ?_
          refine wl_v (ov_move rfl) rfl rfl rfl ?_
          refine wl_v (ov_move rfl) rfl rfl rfl ?_
          refine wl_r (or_call (fv := []) (vs := [.slice A3_27 ((mapV ((m_21 : Nat) : Int) es_21 N2_21 fs_21).1.length) (c3_27), .slice A3_33 ((mapV ((m_21 : Nat) : Int) es_21 N2_21 fs_21).1.length) (c3_33)]) (cs := []) en31 rfl rfl (call_v (fun w hw => equalInts_c w A3_27 ((mapV ((m_21 : Nat) : Int) es_21 N2_21 fs_21).1.length) c3_27 ((mapV ((m_21 : Nat) : Int) es_21 N2_21 fs_21).1) A3_33 ((mapV ((m_21 : Nat) : Int) es_21 N2_21 fs_21).1.length) c3_33 ((mapV ((m_21 : Nat) : Int) es_21 N2_21 fs_21).1) ((holds_row (List.Mem.tail _ (List.Mem.head _))) w hw) rfl h_27 ((holds_row (List.Mem.head _)) w hw) rfl h_33 (by omega)))) rfl rfl (kt_if rfl (fun c69 => ?_) (fun c69 => ?_))
          ·
            refine wl_v (ov_move rfl) rfl rfl rfl ?_
            refine wl_go rfl rfl ?_
            refine wl_v (ov_move rfl) rfl rfl rfl ?_
            refine wl_go rfl rfl ?_
            refine wl_v (ov_move rfl) rfl rfl rfl ?_
            refine wl_go rfl rfl ?_
            refine wl_if (OpV.dec (ov_eqlb uI4 rfl rfl)) rfl rfl rfl (fun c73 => ?_) (fun c73 => ?_)
            ·
              refine wl_v (ov_pick_t rfl rfl) rfl rfl rfl ?_
              refine wl_v (ov_assign rfl) rfl rfl rfl ?_
              refine wl_nil ?_
              refine ce_then ?_
              refine cw_ret ?_
              refine ce_then_ret ?_
              refine ce_results (v := .bool true) (res1 rfl (rv_t rfl)) (fun w' hw => ?_)
              exact ⟨rfl, (Keep.nil.ss hw).to_new⟩
            ·
              (exfalso; simp at c73)
          ·
            exact absurd rfl c69
    ·
      exact absurd rfl c38
end Go.Proofs.Ytfjgfocjogfodaa.LFnMapOf
