/- Walks of functions of the given program: each returns what its Lean function says and leaves the memory that was there as it was. Conditions: those of each theorem. -/
import Derived.Test.YtfjgfocjogfodaaSm
import Derived.Test.YtfjgfocjogfodaaProg
import Derived.Test.YtfjgfocjogfodaaPl
import Derived.Test.YtfjgfocjogfodaaPo
import Derived.Test.YtfjgfocjogfodaaPd
import Derived.Test.YtfjgfocjogfodaaPe
import Derived.Test.YtfjgfocjogfodaaPh
import Derived.Test.YtfjgfocjogfodaaPm
import Derived.Test.YtfjgfocjogfodaaPc
import Derived.Test.YtfjgfocjogfodaaPs
import Derived.Test.YtfjgfocjogfodaaPt
import Derived.Test.YtfjgfocjogfodaaPu
import Derived.Test.YtfjgfocjogfodaaT
import Derived.Test.YtfjgfocjogfodaaW2
import Derived.Test.YtfjgfocjogfodaaW5
import Derived.Test.YtfjgfocjogfodaaW12
import Derived.Test.YtfjgfocjogfodaaW23
import Derived.Test.YtfjgfocjogfodaaW24
import Derived.KernelRfl
namespace Go.Proofs.Ytfjgfocjogfodaa.LFnFactorOf
open Go.Sx Go.RowKit Go.Proofs.Ytfjgfocjogfodaa.T Go.Proofs.Ytfjgfocjogfodaa.W2 Go.Proofs.Ytfjgfocjogfodaa.W5 Go.Proofs.Ytfjgfocjogfodaa.W12 Go.Proofs.Ytfjgfocjogfodaa.W23 Go.Proofs.Ytfjgfocjogfodaa.W24
open Go.Plain
set_option linter.unusedVariables false
set_option maxRecDepth 100000 in
theorem FnFactorOf_c (w : World) (Ar : Option Addr) (nr : Nat) (cr : Nat) (bs : List (Nat)) (hAr : At w Ar (cells fY bs)) (eAr : bs.length = nr) (lAr : nr ≤ cr) (hb : ∀ x ∈ bs, x < 256) : Calls Try.prog 6 #[.slice Ar (nr) (cr)] w (Ret fun rv w' => rv = .bool true ∧ New w w' []) := by
  have oAr := hAr.atB
  subst eAr
  refine fn_enter (args := [.slice Ar (bs.length) (cr)]) Try.func6 rfl Try.ntmps6 rfl (SS.start w) ?_
  refine cw_seq ?_
  refine cw_region ?_
  refine wl_v (ov_assign rfl) rfl rfl rfl ?_
  refine wl_nil ?_
  refine ce_then ?_
  refine cw_seq ?_
  refine cw_seq ?_
  refine cw_region ?_
  refine wl_v (ov_move rfl) rfl rfl rfl ?_
  refine wl_v (ov_len (sliceI_spec sI22) rfl) rfl rfl rfl ?_
  refine wl_if (ov_gtr rfl rfl) rfl rfl rfl (fun c16 => ?_) (fun c16 => ?_)
  ·
    refine wl_nil ?_
    refine ce_then ?_
    refine cw_true rfl ?_
    refine cw_seq ?_
    refine cw_region ?_
    refine wl_v (ov_assign rfl) rfl rfl rfl ?_
    refine wl_nil ?_
    refine ce_then ?_
    refine cw_ret ?_
    refine ce_then_ret ?_
    refine ce_results (v := .bool true) (res1 rfl (rv_t rfl)) (fun w' hw => ?_)
    exact ⟨rfl, (Keep.nil.ss hw).to_new⟩
  ·
    refine wl_nil ?_
    refine ce_then ?_
    refine cw_false rfl ?_
    refine cw_skip ?_
    refine ce_then ?_
    refine cw_seq ?_
    refine cw_region ?_
    refine wl_v (ov_move rfl) rfl rfl rfl ?_
    refine wl_r (or_call (fv := []) (vs := [.slice Ar (bs.length) (cr)]) (cs := []) en25 rfl rfl (call_x7 (fun w hw => DrawFactorOf_c w Ar bs.length cr bs ((holds_old oAr) w hw) rfl lAr (by first | assumption | omega | (simp; omega))))) rfl rfl (kt7p rfl (fun N_19 A1_19 c1_19 es_19 A2_19 c2_19 ys_19 h_19 => ?_))
    have hb19 := h_19.1
    have hl25 : (fctV N_19 es_19 ys_19).2.1.length ≤ 100 := fct_len (by omega)
    refine wl_v (ov_move rfl) rfl rfl rfl ?_
    refine wl_v (ov_extract rfl rfl) rfl rfl rfl ?_
    refine wl_v (ov_extract rfl rfl) rfl rfl rfl ?_
    refine wl_r (or_alloc tI25 rfl) rfl rfl (kt1 rfl (fun g3 => ?_))
    refine wl_r0 (or_store_blk (vs := [.int .i64 (N_19), .slice A1_19 (es_19.length) (c1_19)]) (cs' := [.int .i64 (N_19), .slice A1_19 (es_19.length) (c1_19)]) (.head) tI25 rfl rfl rfl rfl (Nat.le_of_ble_eq_true rfl) rfl) rfl rfl (kn0 ?_)
    refine wl_v (ov_assign rfl) rfl rfl rfl ?_
    refine wl_nil ?_
    refine ce_then ?_
    refine cw_seq ?_
    refine cw_region ?_
    refine wl_v (ov_loadAgg (vs := [.int .i64 (N_19), .slice A1_19 (es_19.length) (c1_19)]) tI25 (holds_blk (List.Mem.head _)) rfl some_lit rfl rfl) rfl rfl rfl ?_
    refine wl_v (ov_move rfl) rfl rfl rfl ?_
    refine wl_r (or_call (fv := []) (vs := [.agg #[.int .i64 (N_19), .slice A1_19 (es_19.length) (c1_19)], .slice A2_19 (ys_19.length) (c2_19)]) (cs := []) en26 rfl rfl (call_x3 (fun w hw => FactorOfI_c w N_19 A1_19 es_19.length c1_19 es_19 A2_19 ys_19.length c2_19 ys_19 ((holds_row (List.Mem.tail _ (List.Mem.head _))) w hw) rfl h_19.1.1 ((holds_row (List.Mem.tail _ (List.Mem.tail _ (List.Mem.head _)))) w hw) rfl h_19.2.1 (by omega) (by omega)))) rfl rfl (kt3p rfl (fun A3_25 k3_25 c3_25 h_25 => ?_))
    refine wl_v (ov_move rfl) rfl rfl rfl ?_
    refine wl_v (ov_extract rfl rfl) rfl rfl rfl ?_
    refine wl_v (ov_extract rfl rfl) rfl rfl rfl ?_
    refine wl_r (or_alloc tI25 rfl) rfl rfl (kt1 rfl (fun g5 => ?_))
    refine wl_r0 (or_store_blk (vs := [.int .i64 ((fctV N_19 es_19 ys_19).1), .slice A3_25 ((fctV N_19 es_19 ys_19).2.1.length) (k3_25)]) (cs' := [.int .i64 ((fctV N_19 es_19 ys_19).1), .slice A3_25 ((fctV N_19 es_19 ys_19).2.1.length) (k3_25)]) (.head) tI25 rfl rfl rfl rfl (Nat.le_of_ble_eq_true rfl) rfl) rfl rfl (kn0 ?_)
    refine wl_v (ov_assign rfl) rfl rfl rfl ?_
    refine wl_nil ?_
    refine ce_then ?_
    refine cw_seq ?_
    refine cw_region ?_
    refine wl_v (ov_loadAgg (vs := [.int .i64 (N_19), .slice A1_19 (es_19.length) (c1_19)]) tI25 (holds_blk (List.Mem.tail _ (List.Mem.tail _ (List.Mem.head _)))) rfl some_lit rfl rfl) rfl rfl rfl ?_
    refine wl_v (ov_move rfl) rfl rfl rfl ?_
    refine wl_r (or_call (fv := []) (vs := [.agg #[.int .i64 (N_19), .slice A1_19 (es_19.length) (c1_19)], .slice A2_19 (ys_19.length) (c2_19)]) (cs := []) en27 rfl rfl (call_x3 (fun w hw => FactorOfS_c w N_19 A1_19 es_19.length c1_19 es_19 A2_19 ys_19.length c2_19 ys_19 ((holds_row (List.Mem.tail _ (List.Mem.tail _ (List.Mem.tail _ (List.Mem.head _))))) w hw) rfl h_19.1.1 ((holds_row (List.Mem.tail _ (List.Mem.tail _ (List.Mem.tail _ (List.Mem.tail _ (List.Mem.head _)))))) w hw) rfl h_19.2.1 (by omega) (by omega)))) rfl rfl (kt3p rfl (fun A3_31 k3_31 c3_31 h_31 => ?_))
    refine wl_v (ov_move rfl) rfl rfl rfl ?_
    refine wl_v (ov_extract rfl rfl) rfl rfl rfl ?_
    refine wl_v (ov_extract rfl rfl) rfl rfl rfl ?_
    refine wl_r (or_alloc tI25 rfl) rfl rfl (kt1 rfl (fun g7 => ?_))
    refine wl_r0 (or_store_blk (vs := [.int .i64 ((fctV N_19 es_19 ys_19).1), .slice A3_31 ((fctV N_19 es_19 ys_19).2.1.length) (k3_31)]) (cs' := [.int .i64 ((fctV N_19 es_19 ys_19).1), .slice A3_31 ((fctV N_19 es_19 ys_19).2.1.length) (k3_31)]) (.head) tI25 rfl rfl rfl rfl (Nat.le_of_ble_eq_true rfl) rfl) rfl rfl (kn0 ?_)
    refine wl_v (ov_assign rfl) rfl rfl rfl ?_
    refine wl_nil ?_
    refine ce_then ?_
    refine cw_seq ?_
    refine cw_seq ?_
    refine cw_region ?_
    refine wl_v (ov_loadAgg (vs := [.int .i64 ((fctV N_19 es_19 ys_19).1), .slice A3_25 ((fctV N_19 es_19 ys_19).2.1.length) (k3_25)]) tI25 (holds_blk (List.Mem.tail _ (List.Mem.tail _ (List.Mem.head _)))) rfl some_lit rfl rfl) rfl rfl rfl ?_
    refine wl_v (ov_loadAgg (vs := [.int .i64 ((fctV N_19 es_19 ys_19).1), .slice A3_31 ((fctV N_19 es_19 ys_19).2.1.length) (k3_31)]) tI25 (holds_blk (List.Mem.head _)) rfl some_lit rfl rfl) rfl rfl rfl ?_
    refine wl_r (or_call (fv := []) (vs := [.agg #[.int .i64 ((fctV N_19 es_19 ys_19).1), .slice A3_25 ((fctV N_19 es_19 ys_19).2.1.length) (k3_25)], .agg #[.int .i64 ((fctV N_19 es_19 ys_19).1), .slice A3_31 ((fctV N_19 es_19 ys_19).2.1.length) (k3_31)]]) (cs := []) en28 rfl rfl (call_v (fun w hw => equalGraph_c w ((fctV N_19 es_19 ys_19).1) A3_25 ((fctV N_19 es_19 ys_19).2.1.length) k3_25 ((fctV N_19 es_19 ys_19).2.1) ((fctV N_19 es_19 ys_19).1) A3_31 ((fctV N_19 es_19 ys_19).2.1.length) k3_31 ((fctV N_19 es_19 ys_19).2.1) ((holds_row (List.Mem.tail _ (List.Mem.tail _ (List.Mem.tail _ (List.Mem.head _))))) w hw) rfl h_25 ((holds_row (List.Mem.tail _ (List.Mem.head _))) w hw) rfl h_31 (by omega)))) rfl rfl (kt_if rfl (fun c36 => ?_) (fun c36 => ?_))
    ·
      refine wl_v (ov_not rfl) rfl rfl rfl ?_
      refine wl_v (ov_move rfl) rfl rfl rfl ?_
      refine wl_go rfl rfl ?_
      refine wl_v (ov_move rfl) rfl rfl rfl ?_
      refine wl_go rfl rfl ?_
      refine wl_v (ov_move rfl) rfl rfl rfl ?_
      refine wl_go rfl rfl ?_
      refine wl_if (OpV.dec (ov_neqb uI4 rfl rfl)) rfl rfl rfl (fun c41 => ?_) (fun c41 => ?_)
      ·
        simp at c41
      ·
        refine wl_v (ov_pick_f rfl rfl) rfl rfl rfl ?_
        refine wl_v (ov_move rfl) rfl rfl rfl ?_
        refine wl_go rfl rfl ?_
        refine wl_v (ov_loadAgg (vs := [.int .i64 (N_19), .slice A1_19 (es_19.length) (c1_19)]) tI25 (holds_blk (List.Mem.tail _ (List.Mem.tail _ (List.Mem.tail _ (List.Mem.tail _ (List.Mem.head _)))))) rfl some_lit rfl rfl) rfl rfl rfl ?_
        refine wl_go rfl rfl ?_
        refine wl_r (or_call (fv := []) (vs := [.agg #[.int .i64 (N_19), .slice A1_19 (es_19.length) (c1_19)]]) (cs := []) en12 rfl rfl (call_v (fun w hw => validGraphI_c w N_19 A1_19 es_19.length c1_19 es_19 ((holds_row (List.Mem.tail _ (List.Mem.tail _ (List.Mem.tail _ (List.Mem.tail _ (List.Mem.tail _ (List.Mem.head _))))))) w hw) rfl h_19.1.1 (by first | assumption | omega | (simp; omega)) (by first | assumption | omega | (simp; omega))))) rfl rfl (kt_if rfl (fun c45 => ?_) (fun c45 => ?_))
        ·
          refine wl_go rfl rfl ?_
          refine wl_v (ov_not rfl) rfl rfl rfl ?_
          refine wl_v (ov_pick_f rfl rfl) rfl rfl rfl ?_
          refine wl_v (ov_move rfl) rfl rfl rfl ?_
          refine wl_go rfl rfl ?_
          refine wl_v (ov_move rfl) rfl rfl rfl ?_
          refine wl_go rfl rfl ?_
          refine wl_r (or_call (fv := []) (vs := [.slice A2_19 (ys_19.length) (c2_19)]) (cs := []) en21 rfl rfl (call_v (fun w hw => validI_c w A2_19 ys_19.length c2_19 ys_19 ((holds_row (List.Mem.tail _ (List.Mem.tail _ (List.Mem.tail _ (List.Mem.tail _ (List.Mem.tail _ (List.Mem.tail _ (List.Mem.head _)))))))) w hw) rfl h_19.2.1 (by first | assumption | omega | (simp; omega))))) rfl rfl (kt_if rfl (fun c50 => ?_) (fun c50 => ?_))
          ·
            refine wl_go rfl rfl ?_
            refine wl_v (ov_not rfl) rfl rfl rfl ?_
            refine wl_v (ov_pick_f rfl rfl) rfl rfl rfl ?_
            refine wl_v (ov_move rfl) rfl rfl rfl ?_
            refine wl_go rfl rfl ?_
            refine wl_v (ov_move rfl) rfl rfl rfl ?_
            refine wl_go rfl rfl ?_
            refine wl_v (ov_len (sliceI_spec sI31) rfl) rfl rfl rfl ?_
            refine wl_go rfl rfl ?_
            refine wl_v (ov_fieldAddr fI25_0 some_lit rfl) rfl rfl rfl ?_
            refine wl_go rfl rfl ?_
            refine wl_v (ov_load tI3 (holds_blk (List.Mem.tail _ (List.Mem.tail _ (List.Mem.tail _ (List.Mem.tail _ (List.Mem.head _)))))) rfl rfl) rfl rfl rfl ?_
            refine wl_go rfl rfl ?_
            refine wl_if (ov_neq rfl rfl) rfl rfl rfl (fun c58 => ?_) (fun c58 => ?_)
            ·
              refine wl_v (ov_pick_f rfl rfl) rfl rfl rfl ?_
              refine wl_nil ?_
              refine ce_then ?_
              refine cw_true rfl ?_
              refine cw_seq ?_
              refine cw_region ?_
              refine wl_v (ov_loadAgg (vs := [.int .i64 ((fctV N_19 es_19 ys_19).1), .slice A3_25 ((fctV N_19 es_19 ys_19).2.1.length) (k3_25)]) tI25 (holds_blk (List.Mem.tail _ (List.Mem.tail _ (List.Mem.head _)))) rfl some_lit rfl rfl) rfl rfl rfl ?_
              refine wl_v (ov_loadAgg (vs := [.int .i64 ((fctV N_19 es_19 ys_19).1), .slice A3_31 ((fctV N_19 es_19 ys_19).2.1.length) (k3_31)]) tI25 (holds_blk (List.Mem.head _)) rfl some_lit rfl rfl) rfl rfl rfl ?_
              refine wl_r (or_call (fv := []) (vs := [.agg #[.int .i64 ((fctV N_19 es_19 ys_19).1), .slice A3_25 ((fctV N_19 es_19 ys_19).2.1.length) (k3_25)], .agg #[.int .i64 ((fctV N_19 es_19 ys_19).1), .slice A3_31 ((fctV N_19 es_19 ys_19).2.1.length) (k3_31)]]) (cs := []) en28 rfl rfl (call_v (fun w hw => equalGraph_c w ((fctV N_19 es_19 ys_19).1) A3_25 ((fctV N_19 es_19 ys_19).2.1.length) k3_25 ((fctV N_19 es_19 ys_19).2.1) ((fctV N_19 es_19 ys_19).1) A3_31 ((fctV N_19 es_19 ys_19).2.1.length) k3_31 ((fctV N_19 es_19 ys_19).2.1) ((holds_row (List.Mem.tail _ (List.Mem.tail _ (List.Mem.tail _ (List.Mem.head _))))) w hw) rfl h_25 ((holds_row (List.Mem.tail _ (List.Mem.head _))) w hw) rfl h_31 (by omega)))) rfl rfl (kt_if rfl (fun c62 => ?_) (fun c62 => ?_))
              ·
                refine wl_v (ov_move rfl) rfl rfl rfl ?_
                refine wl_go rfl rfl ?_
                refine wl_v (ov_move rfl) rfl rfl rfl ?_
                refine wl_go rfl rfl ?_
                refine wl_v (ov_move rfl) rfl rfl rfl ?_
                refine wl_go rfl rfl ?_
                refine wl_if (OpV.dec (ov_eqlb uI4 rfl rfl)) rfl rfl rfl (fun c66 => ?_) (fun c66 => ?_)
                ·
                  refine wl_v (ov_pick_t rfl rfl) rfl rfl rfl ?_
                  refine wl_v (ov_assign rfl) rfl rfl rfl ?_
                  refine wl_nil ?_
                  refine ce_then ?_
                  refine cw_ret ?_
                  refine ce_then_ret ?_
                  refine ce_results (v := .bool true) (res1 rfl (rv_t rfl)) (fun w' hw => ?_)
                  exact ⟨rfl, (Keep.nil.ss hw).to_new⟩
                ·
                  simp at c66
              ·
                exact absurd ⟨rfl, rfl⟩ c62
            ·
              refine wl_v (ov_pick_f rfl rfl) rfl rfl rfl ?_
              refine wl_nil ?_
              refine ce_then ?_
              refine cw_false rfl ?_
              refine cw_skip ?_
              refine ce_then ?_
              refine cw_seq ?_
              obtain ⟨m, rfl⟩ := Int.eq_ofNat_of_zero_le (show 0 ≤ N_19 from c45.2.1)
              have hg : Gr m es_19 := by have h9 := c45.gr; rwa [Int.toNat_natCast] at h9
              have hm : m ≤ 7 := by have h9 := c45.2.2; omega
              have hdl := degV_len c45
              have hfN := fctN_le (m := m) (es := es_19) (ys := ys_19)
              refine cw_region ?_
              refine wl_v (ov_loadAgg (vs := [.int .i64 (((m : Nat) : Int)), .slice A1_19 (es_19.length) (c1_19)]) tI25 (holds_blk (List.Mem.tail _ (List.Mem.tail _ (List.Mem.tail _ (List.Mem.tail _ (List.Mem.head _)))))) rfl some_lit rfl rfl) rfl rfl rfl ?_
              refine wl_r (or_call (fv := []) (vs := [.agg #[.int .i64 (((m : Nat) : Int)), .slice A1_19 (es_19.length) (c1_19)]]) (cs := []) en29 rfl rfl (call_x2 (fun w hw => DegreesOfI_c w ((m : Nat) : Int) A1_19 es_19.length c1_19 es_19 ((holds_row (List.Mem.tail _ (List.Mem.tail _ (List.Mem.tail _ (List.Mem.tail _ (List.Mem.tail _ (List.Mem.head _))))))) w hw) rfl h_19.1.1 (by first | assumption | omega | (simp; omega)) (by first | assumption | omega | (simp; omega))))) rfl rfl (kt2p rfl (fun A2_69 c2_69 h_69 => ?_))
              refine wl_v (ov_assign rfl) rfl rfl rfl ?_
              refine wl_nil ?_
              refine ce_then ?_
              refine cw_seq ?_
              refine cw_region ?_
              refine wl_r (or_buildSlice (e := 3) (size := 1) (is := []) (vs := []) (cs := cells fI ([])) rfl rfl rfl (by decide) (fun _ => by kernel_rfl)) rfl rfl (kt1 rfl (fun g70 => ?_))
              refine wl_v (ov_assign rfl) rfl rfl rfl ?_
              refine wl_nil ?_
              refine ce_then ?_
              refine cw_seq ?_
              refine cw_seq ?_
              refine cw_region ?_
              refine wl_v (ov_assign rfl) rfl rfl rfl ?_
              refine wl_nil ?_
              refine ce_then ?_
              refine cw_block ?_
              refine cw_loop3 (fun (k : Nat) (A3 : Option Addr) (c3 : Nat) => [(2, .bool false), (3, elp (some ⟨g3, 0, none⟩) (0)), (4, .slice A2_19 (ys_19.length) (c2_19)), (5, elp (some ⟨g5, 0, none⟩) (0)), (6, .bool ((fctV ((m : Nat) : Int) es_19 ys_19).2.2)), (9, .slice A2_69 ((degV ((m : Nat) : Int) es_19).length) (c2_69)), (10, .slice A3 (k) (c3)), (11, .int .i64 (((k : Nat) : Int)))]) (fun (k : Nat) (A3 : Option Addr) (c3 : Nat) => [row 3 1 A3 (k) (c3) (cells fI (leftTo m es_19 ys_19 k)), row 3 1 A2_69 ((degV ((m : Nat) : Int) es_19).length) (c2_69) (cells fI (degV ((m : Nat) : Int) es_19)), blk g7 [.int .i64 ((fctV ((m : Nat) : Int) es_19 ys_19).1), .slice A3_31 ((fctV ((m : Nat) : Int) es_19 ys_19).2.1.length) (k3_31)] 25, row 43 2 A3_31 ((fctV ((m : Nat) : Int) es_19 ys_19).2.1.length) (c3_31) (cells fE ((fctV ((m : Nat) : Int) es_19 ys_19).2.1)), blk g5 [.int .i64 ((fctV ((m : Nat) : Int) es_19 ys_19).1), .slice A3_25 ((fctV ((m : Nat) : Int) es_19 ys_19).2.1.length) (k3_25)] 25, row 43 2 A3_25 ((fctV ((m : Nat) : Int) es_19 ys_19).2.1.length) (c3_25) (cells fE ((fctV ((m : Nat) : Int) es_19 ys_19).2.1)), blk g3 [.int .i64 (((m : Nat) : Int)), .slice A1_19 (es_19.length) (c1_19)] 25, row 43 2 A1_19 (es_19.length) (c1_19) (cells fE es_19), row 3 1 A2_19 (ys_19.length) (c2_19) (cells fI ys_19)]) (fun (k : Nat) (A3 : Option Addr) (c3 : Nat) => k ≤ m ∧ k ≤ c3) (fun (k : Nat) (A3 : Option Addr) (c3 : Nat) => m - k) 0 (some ⟨g70, 0, none⟩) 0 ⟨by omega, Nat.le_refl _⟩ (.cons rfl (.cons rfl (.cons rfl (.cons rfl (.cons rfl (.cons rfl (.cons rfl (.cons (congrArg (fun z => some (Value.int .i64 z)) (show 0 = ((0 : Nat) : Int) by first | omega | rfl | (simp; done))) (.nil))))))))) (.consE (show row 3 1 (some ⟨g70, 0, none⟩) (0) (0) (cells fI ([])) = row 3 1 (some ⟨g70, 0, none⟩) (0) (0) (cells fI (leftTo m es_19 ys_19 0)) by rfl) (.head) (.cons (.head) (.cons (.head) (.cons (.head) (.cons (.head) (.cons (.head) (.cons (.head) (.cons (.head) (.cons (.head) (.nil)))))))))) ?_
              intro R0 k A3 c3 hk hR0
              obtain ⟨hk1, hk2⟩ := hk
              refine cw_seq ?_
              refine cw_seq ?_
              refine cw_region ?_
              refine wl_v (ov_move rfl) rfl rfl rfl ?_
              refine wl_v (ov_fieldAddr fI25_0 some_lit rfl) rfl rfl rfl ?_
              refine wl_v (ov_load tI3 (holds_blk (List.Mem.tail _ (List.Mem.tail _ (List.Mem.tail _ (List.Mem.tail _ (List.Mem.tail _ (List.Mem.tail _ (List.Mem.head _)))))))) rfl rfl) rfl rfl rfl ?_
              refine wl_if (ov_lss rfl rfl) rfl rfl rfl (fun c74 => ?_) (fun c74 => ?_)
              ·
                refine wl_nil ?_
                refine ce_then ?_
                refine cw_true rfl ?_
                refine cw_skip ?_
                refine ce_then ?_
                refine cw_seq ?_
                refine cw_block ?_
                refine cw_draw mixO [] (.cons (.tail .head) (.cons (.tail .head) (.cons (.tail .head) (.cons (.tail .head) (.cons (.tail .head) (.cons (.tail .head) (.cons (.tail .head) (.cons (.tail .head) (.nil))))))))) rfl ?_
                refine wg_takep (i := 0) rfl (ov_move rfl) rfl rfl rfl (by kernel_rfl) (by kernel_rfl) (by kernel_rfl) rfl ?_
                refine wg_takep (i := 1) rfl (ov_move rfl) rfl rfl rfl (by kernel_rfl) (by kernel_rfl) (by kernel_rfl) rfl ?_
                refine wg_takep (i := 2) rfl (ov_move rfl) rfl rfl rfl (by kernel_rfl) (by kernel_rfl) (by kernel_rfl) rfl ?_
                have hdk := degV_bd c45 k
                have hyk := h_19.2.2.2.at_ (k := k) (by omega)
                refine wg_take (i := 3) rfl (ov_index (k := k) (c := c2_69) sI31 tI3 rfl rfl (some_holds (q := k * 1) (holds_row (List.Mem.head _)) (by rw [cells_length fI_len]; have hlt : k < (degV ((m : Nat) : Int) es_19).length := (by first | omega | (simp; omega)); omega)) (show k < (degV ((m : Nat) : Int) es_19).length from (by first | omega | (simp; omega)))) rfl rfl rfl (by kernel_rfl) (by kernel_rfl) (by kernel_rfl) (by kernel_rfl) ?_
                refine wg_take (i := 4) rfl (ov_load tI3 (holds_row (List.Mem.head _)) rfl (get_fI (show k < (degV ((m : Nat) : Int) es_19).length from (by first | omega | (simp; omega))))) rfl rfl rfl (by kernel_rfl) (by kernel_rfl) (by kernel_rfl) (by kernel_rfl) ?_
                refine wg_takep (i := 5) rfl (ov_move rfl) rfl rfl rfl (by kernel_rfl) (by kernel_rfl) (by kernel_rfl) rfl ?_
                refine wg_takep (i := 6) rfl (ov_move rfl) rfl rfl rfl (by kernel_rfl) (by kernel_rfl) (by kernel_rfl) rfl ?_
                refine wg_take (i := 7) rfl (ov_index (k := k) (c := c2_19) sI31 tI3 rfl rfl (some_holds (q := k * 1) (holds_row (List.Mem.tail _ (List.Mem.tail _ (List.Mem.tail _ (List.Mem.tail _ (List.Mem.tail _ (List.Mem.tail _ (List.Mem.tail _ (List.Mem.head _))))))))) (by rw [cells_length fI_len]; have hlt : k < ys_19.length := (by first | omega | (simp; omega)); omega)) (show k < ys_19.length from (by first | omega | (simp; omega)))) rfl rfl rfl (by kernel_rfl) (by kernel_rfl) (by kernel_rfl) (by kernel_rfl) ?_
                refine wg_take (i := 8) rfl (ov_load tI3 (holds_row (List.Mem.tail _ (List.Mem.tail _ (List.Mem.tail _ (List.Mem.tail _ (List.Mem.tail _ (List.Mem.tail _ (List.Mem.tail _ (List.Mem.head _))))))))) rfl (get_fI (show k < ys_19.length from (by first | omega | (simp; omega))))) rfl rfl rfl (by kernel_rfl) (by kernel_rfl) (by kernel_rfl) (by kernel_rfl) ?_
                refine wg_takep (i := 9) rfl (ov_sub (r := ((degV ((m : Nat) : Int) es_19).getD k 0) - (ys_19.getD k 0)) rfl rfl rfl (by omega)) rfl rfl rfl (by kernel_rfl) (by kernel_rfl) (by kernel_rfl) rfl ?_
                refine wg_one (i := 10) (by kernel_rfl) ?_
                refine go_r rfl rfl rfl rfl (or_buildSlice (e := 3) (size := 1) (is := [0]) (vs := [.int .i64 (((degV ((m : Nat) : Int) es_19).getD k 0) - (ys_19.getD k 0))]) (cs := cells fI ([((degV ((m : Nat) : Int) es_19).getD k 0) - (ys_19.getD k 0)])) rfl rfl rfl (by decide) (fun _ => by kernel_rfl)) (kt1 rfl (fun g87 => ?_))
                refine gk (.cons (.tail (.tail .head)) (.cons (.tail (.tail .head)) (.cons (.tail (.tail .head)) (.cons (.tail (.tail .head)) (.cons (.tail (.tail .head)) (.cons (.tail (.tail .head)) (.cons (.tail (.tail .head)) (.cons (.tail (.tail .head)) (.nil))))))))) ?_
                refine wg_one (i := 11) (by kernel_rfl) ?_
                refine go_r rfl rfl rfl rfl (or_append (c2 := 1) sI31 tI3 rfl (by decide) rfl rfl (.tail .head) (holds_row (List.Mem.head _)) (by rw [cells_length fI_len]; try simp) (one_cells fI_one _) cells_append (by omega) (by omega)) (kt2p rfl (fun A88 c88 h88 => ?_))
                refine gk (.cons (.tail (.tail .head)) (.cons (.tail (.tail .head)) (.cons (.tail (.tail .head)) (.cons (.tail (.tail .head)) (.cons (.tail (.tail .head)) (.cons (.tail (.tail .head)) (.cons (.tail (.tail .head)) (.cons (.tail (.tail .head)) (.nil))))))))) ?_
                refine wg_takep (i := 12) rfl (ov_assign rfl) rfl rfl rfl (by kernel_rfl) (by kernel_rfl) (by kernel_rfl) rfl ?_
                refine wg_done (by kernel_rfl) ?_
                refine ce_block ?_
                refine ce_then ?_
                refine cw_region ?_
                refine wl_v (ov_move rfl) rfl rfl rfl ?_
                refine wl_v (ov_add (r := ((k + 1 : Nat) : Int)) rfl rfl rfl (by omega)) rfl rfl rfl ?_
                refine wl_v (ov_assign rfl) rfl rfl rfl ?_
                refine wl_nil ?_
                exact fun ac_ w_ hs_ => hR0 (k + 1) A88 c88 ⟨by omega, h88⟩ (by omega) ac_ w_ (hs_.weaken (.cons rfl (.cons rfl (.cons rfl (.cons rfl (.cons rfl (.cons rfl (.cons rfl (.cons rfl (.nil))))))))) (.consE (show row 3 1 A88 (k + 1) (c88) (cells fI ((leftTo m es_19 ys_19 k) ++ ([((degV ((m : Nat) : Int) es_19).getD k 0) - (ys_19.getD k 0)]))) = row 3 1 A88 ((k + 1)) (c88) (cells fI (leftTo m es_19 ys_19 (k + 1))) by rw [leftTo_succ] <;> rfl) (.head) (.cons (.tail .head) (.cons (.tail .head) (.cons (.tail .head) (.cons (.tail .head) (.cons (.tail .head) (.cons (.tail .head) (.cons (.tail .head) (.cons (.tail .head) (.nil)))))))))))
              ·
                refine wl_nil ?_
                refine ce_then ?_
                refine cw_false rfl ?_
                refine cw_exit ?_
                refine ce_then_exit ?_
                refine ce_then_exit ?_
                refine ce_hit ?_
                refine ce_then ?_
                refine cw_seq ?_
                refine cw_region ?_
                refine wl_v (ov_loadAgg (vs := [.int .i64 (((m : Nat) : Int)), .slice A1_19 (es_19.length) (c1_19)]) tI25 (holds_blk (List.Mem.tail _ (List.Mem.tail _ (List.Mem.tail _ (List.Mem.tail _ (List.Mem.tail _ (List.Mem.tail _ (List.Mem.head _)))))))) rfl some_lit rfl rfl) rfl rfl rfl ?_
                refine wl_v (ov_move rfl) rfl rfl rfl ?_
                refine wl_r (or_call (fv := []) (vs := [.agg #[.int .i64 (((m : Nat) : Int)), .slice A1_19 (es_19.length) (c1_19)], .slice A3 (k) (c3)]) (cs := []) en26 rfl rfl (call_x3 (fun w hw => FactorOfI_c w ((m : Nat) : Int) A1_19 es_19.length c1_19 es_19 A3 k c3 (leftTo m es_19 ys_19 k) ((holds_row (List.Mem.tail _ (List.Mem.tail _ (List.Mem.tail _ (List.Mem.tail _ (List.Mem.tail _ (List.Mem.tail _ (List.Mem.tail _ (List.Mem.head _))))))))) w hw) rfl h_19.1.1 ((holds_row (List.Mem.head _)) w hw) (leftTo_len _ _ _ _) hk2 (by rw [leftTo_len]; omega) (by first | assumption | omega | (simp; omega))))) rfl rfl (kt3p rfl (fun A3_92 k3_92 c3_92 h_92 => ?_))
                refine wl_v (ov_move rfl) rfl rfl rfl ?_
                refine wl_v (ov_extract rfl rfl) rfl rfl rfl ?_
                refine wl_v (ov_extract rfl rfl) rfl rfl rfl ?_
                refine wl_r (or_alloc tI25 rfl) rfl rfl (kt1 rfl (fun g12 => ?_))
                refine wl_r0 (or_store_blk (vs := [.int .i64 ((fctV ((m : Nat) : Int) es_19 (leftTo m es_19 ys_19 k)).1), .slice A3_92 ((fctV ((m : Nat) : Int) es_19 (leftTo m es_19 ys_19 k)).2.1.length) (k3_92)]) (cs' := [.int .i64 ((fctV ((m : Nat) : Int) es_19 (leftTo m es_19 ys_19 k)).1), .slice A3_92 ((fctV ((m : Nat) : Int) es_19 (leftTo m es_19 ys_19 k)).2.1.length) (k3_92)]) (.head) tI25 rfl rfl rfl rfl (Nat.le_of_ble_eq_true rfl) rfl) rfl rfl (kn0 ?_)
                refine wl_v (ov_assign rfl) rfl rfl rfl ?_
                refine wl_nil ?_
                refine ce_then ?_
                refine cw_seq ?_
                refine cw_region ?_
                refine wl_v (ov_move rfl) rfl rfl rfl ?_
                refine wl_v (ov_move rfl) rfl rfl rfl ?_
                refine wl_if (OpV.dec (ov_eqlb uI4 rfl rfl)) rfl rfl rfl (fun c97 => ?_) (fun c97 => ?_)
                ·
                  refine wl_v (ov_move rfl) rfl rfl rfl ?_
                  refine wl_go rfl rfl ?_
                  refine wl_v (ov_move rfl) rfl rfl rfl ?_
                  refine wl_go rfl rfl ?_
                  refine wl_if (OpV.dec (ov_not rfl)) rfl rfl rfl (fun c100 => ?_) (fun c100 => ?_)
                  ·
                    refine wl_go rfl rfl ?_
                    refine wl_v (ov_move rfl) rfl rfl rfl ?_
                    refine wl_not rfl rfl rfl rfl rfl rfl ?_
                    refine wl_not rfl rfl rfl rfl rfl rfl ?_
                    refine wl_not rfl rfl rfl rfl rfl rfl ?_
                    refine wl_not rfl rfl rfl rfl rfl rfl ?_
                    refine wl_notu rfl rfl rfl rfl rfl ?_
                    refine wl_notu rfl rfl rfl rfl rfl ?_
                    refine wl_notu rfl rfl rfl rfl rfl ?_
                    refine wl_notu rfl rfl rfl rfl rfl ?_
                    refine wl_not rfl rfl rfl rfl rfl rfl ?_
                    refine wl_go rfl rfl ?_
                    refine wl_v (ov_pick_t rfl rfl) rfl rfl rfl ?_
                    refine wl_v (ov_pick_t rfl rfl) rfl rfl rfl ?_
                    refine wl_v (ov_assign rfl) rfl rfl rfl ?_
                    refine wl_nil ?_
                    refine ce_then ?_
                    refine cw_ret ?_
                    refine ce_results (v := .bool true) (res1 rfl (rv_t rfl)) (fun w' hw => ?_)
                    exact ⟨rfl, (Keep.nil.ss hw).to_new⟩
                  ·
                    refine wl_go rfl rfl ?_
                    refine wl_v (ov_move rfl) rfl rfl rfl ?_
                    refine wl_go rfl rfl ?_
                    refine wl_v (ov_loadAgg (vs := [.int .i64 ((fctV ((m : Nat) : Int) es_19 ys_19).1), .slice A3_25 ((fctV ((m : Nat) : Int) es_19 ys_19).2.1.length) (k3_25)]) tI25 (holds_blk (List.Mem.tail _ (List.Mem.tail _ (List.Mem.tail _ (List.Mem.tail _ (List.Mem.tail _ (List.Mem.tail _ (List.Mem.head _)))))))) rfl some_lit rfl rfl) rfl rfl rfl ?_
                    refine wl_go rfl rfl ?_
                    refine wl_v (ov_loadAgg (vs := [.int .i64 (((m : Nat) : Int)), .slice A1_19 (es_19.length) (c1_19)]) tI25 (holds_blk (List.Mem.tail _ (List.Mem.tail _ (List.Mem.tail _ (List.Mem.tail _ (List.Mem.tail _ (List.Mem.tail _ (List.Mem.tail _ (List.Mem.tail _ (List.Mem.head _)))))))))) rfl some_lit rfl rfl) rfl rfl rfl ?_
                    refine wl_go rfl rfl ?_
                    refine wl_r (or_call (fv := []) (vs := [.agg #[.int .i64 ((fctV ((m : Nat) : Int) es_19 ys_19).1), .slice A3_25 ((fctV ((m : Nat) : Int) es_19 ys_19).2.1.length) (k3_25)], .agg #[.int .i64 (((m : Nat) : Int)), .slice A1_19 (es_19.length) (c1_19)]]) (cs := []) en30 rfl rfl (call_v (fun w hw => IsPartI_c w ((fctV ((m : Nat) : Int) es_19 ys_19).1) A3_25 ((fctV ((m : Nat) : Int) es_19 ys_19).2.1.length) k3_25 ((fctV ((m : Nat) : Int) es_19 ys_19).2.1) ((m : Nat) : Int) A1_19 es_19.length c1_19 es_19 ((holds_row (List.Mem.tail _ (List.Mem.tail _ (List.Mem.tail _ (List.Mem.tail _ (List.Mem.tail _ (List.Mem.tail _ (List.Mem.tail _ (List.Mem.head _))))))))) w hw) rfl h_25 ((holds_row (List.Mem.tail _ (List.Mem.tail _ (List.Mem.tail _ (List.Mem.tail _ (List.Mem.tail _ (List.Mem.tail _ (List.Mem.tail _ (List.Mem.tail _ (List.Mem.tail _ (List.Mem.head _))))))))))) w hw) rfl h_19.1.1 (by omega) (by first | assumption | omega | (simp; omega))))) rfl rfl (kt_if rfl (fun c104 => ?_) (fun c104 => ?_))
                    ·
                      refine wl_go rfl rfl ?_
                      refine wl_v (ov_move rfl) rfl rfl rfl ?_
                      refine wl_go rfl rfl ?_
                      refine wl_v (ov_loadAgg (vs := [.int .i64 ((fctV ((m : Nat) : Int) es_19 ys_19).1), .slice A3_25 ((fctV ((m : Nat) : Int) es_19 ys_19).2.1.length) (k3_25)]) tI25 (holds_blk (List.Mem.tail _ (List.Mem.tail _ (List.Mem.tail _ (List.Mem.tail _ (List.Mem.tail _ (List.Mem.tail _ (List.Mem.head _)))))))) rfl some_lit rfl rfl) rfl rfl rfl ?_
                      refine wl_go rfl rfl ?_
                      refine wl_r (or_call (fv := []) (vs := [.agg #[.int .i64 ((fctV ((m : Nat) : Int) es_19 ys_19).1), .slice A3_25 ((fctV ((m : Nat) : Int) es_19 ys_19).2.1.length) (k3_25)]]) (cs := []) en29 rfl rfl (call_x2 (fun w hw => DegreesOfI_c w ((fctV ((m : Nat) : Int) es_19 ys_19).1) A3_25 ((fctV ((m : Nat) : Int) es_19 ys_19).2.1.length) k3_25 ((fctV ((m : Nat) : Int) es_19 ys_19).2.1) ((holds_row (List.Mem.tail _ (List.Mem.tail _ (List.Mem.tail _ (List.Mem.tail _ (List.Mem.tail _ (List.Mem.tail _ (List.Mem.tail _ (List.Mem.head _))))))))) w hw) rfl h_25 (by omega) (by first | assumption | omega | (simp; omega))))) rfl rfl (kt2p rfl (fun A2_107 c2_107 h_107 => ?_))
                      refine wl_go rfl rfl ?_
                      refine wl_v (ov_move rfl) rfl rfl rfl ?_
                      refine wl_go rfl rfl ?_
                      refine wl_r (or_call (fv := []) (vs := [.slice A2_107 ((degV ((fctV ((m : Nat) : Int) es_19 ys_19).1) ((fctV ((m : Nat) : Int) es_19 ys_19).2.1)).length) (c2_107), .slice A2_19 (ys_19.length) (c2_19)]) (cs := []) en31 rfl rfl (call_v (fun w hw => equalInts_c w A2_107 ((degV ((fctV ((m : Nat) : Int) es_19 ys_19).1) ((fctV ((m : Nat) : Int) es_19 ys_19).2.1)).length) c2_107 (degV ((fctV ((m : Nat) : Int) es_19 ys_19).1) ((fctV ((m : Nat) : Int) es_19 ys_19).2.1)) A2_19 ys_19.length c2_19 ys_19 ((holds_row (List.Mem.head _)) w hw) rfl h_107 ((holds_row (List.Mem.tail _ (List.Mem.tail _ (List.Mem.tail _ (List.Mem.tail _ (List.Mem.tail _ (List.Mem.tail _ (List.Mem.tail _ (List.Mem.tail _ (List.Mem.tail _ (List.Mem.tail _ (List.Mem.tail _ (List.Mem.head _))))))))))))) w hw) rfl h_19.2.1 (by have h5 := degV_le (es := (fctV ((m : Nat) : Int) es_19 ys_19).2.1) (N := (fctV ((m : Nat) : Int) es_19 ys_19).1); omega)))) rfl rfl (kt_if rfl (fun c109 => ?_) (fun c109 => ?_))
                      ·
                        refine wl_go rfl rfl ?_
                        refine wl_v (ov_pick_t rfl rfl) rfl rfl rfl ?_
                        refine wl_go rfl rfl ?_
                        refine wl_v (ov_pick_f rfl rfl) rfl rfl rfl ?_
                        refine wl_v (ov_pick_t rfl rfl) rfl rfl rfl ?_
                        refine wl_v (ov_assign rfl) rfl rfl rfl ?_
                        refine wl_nil ?_
                        refine ce_then ?_
                        refine cw_ret ?_
                        refine ce_results (v := .bool true) (res1 rfl (rv_t rfl)) (fun w' hw => ?_)
                        exact ⟨rfl, (Keep.nil.ss hw).to_new⟩
                      ·
                        refine wl_go rfl rfl ?_
                        refine wl_v (ov_pick_t rfl rfl) rfl rfl rfl ?_
                        refine wl_go rfl rfl ?_
                        refine wl_v (ov_pick_f rfl rfl) rfl rfl rfl ?_
                        refine wl_v (ov_pick_t rfl rfl) rfl rfl rfl ?_
                        refine wl_v (ov_assign rfl) rfl rfl rfl ?_
                        refine wl_nil ?_
                        refine ce_then ?_
                        refine cw_ret ?_
                        refine ce_results (v := .bool false) (res1 rfl (rv_t rfl)) (fun w' hw => ?_)
                        exfalso
                        have hfy := fct_yes c45 c50 (by omega) (by simpa using c100)
                        exact c109 (by rw [hfy.1]; exact hfy.2.2.2)
                    ·
                      refine wl_go rfl rfl ?_
                      refine wl_v (ov_move rfl) rfl rfl rfl ?_
                      refine wl_not rfl rfl rfl rfl rfl rfl ?_
                      refine wl_not rfl rfl rfl rfl rfl rfl ?_
                      refine wl_not rfl rfl rfl rfl rfl rfl ?_
                      refine wl_not rfl rfl rfl rfl rfl rfl ?_
                      refine wl_go rfl rfl ?_
                      refine wl_v (ov_pick_f rfl rfl) rfl rfl rfl ?_
                      refine wl_go rfl rfl ?_
                      refine wl_v (ov_pick_f rfl rfl) rfl rfl rfl ?_
                      refine wl_v (ov_pick_t rfl rfl) rfl rfl rfl ?_
                      refine wl_v (ov_assign rfl) rfl rfl rfl ?_
                      refine wl_nil ?_
                      refine ce_then ?_
                      refine cw_ret ?_
                      refine ce_results (v := .bool false) (res1 rfl (rv_t rfl)) (fun w' hw => ?_)
                      exfalso
                      have hfy := fct_yes c45 c50 (by omega) (by simpa using c100)
                      exact c104 ⟨⟨c45, by rw [hfy.1]; exact hfy.2.1, hfy.1.symm⟩, hfy.2.2.1⟩
                ·
                  exact absurd (by rw [fct_left c45 c50 (by omega), show m = k from by omega]; simp) c97
          ·
            refine wl_go rfl rfl ?_
            refine wl_v (ov_not rfl) rfl rfl rfl ?_
            refine wl_v (ov_pick_f rfl rfl) rfl rfl rfl ?_
            refine wl_v (ov_move rfl) rfl rfl rfl ?_
            refine wl_not rfl rfl rfl rfl rfl rfl ?_
            refine wl_not rfl rfl rfl rfl rfl rfl ?_
            refine wl_not rfl rfl rfl rfl rfl rfl ?_
            refine wl_not rfl rfl rfl rfl rfl rfl ?_
            refine wl_not rfl rfl rfl rfl rfl rfl ?_
            refine wl_v (ov_pick_t rfl rfl) rfl rfl rfl ?_
            refine wl_nil ?_
            refine ce_then ?_
            refine cw_true rfl ?_
            refine cw_seq ?_
            refine cw_region ?_
            refine wl_v (ov_loadAgg (vs := [.int .i64 ((fctV N_19 es_19 ys_19).1), .slice A3_25 ((fctV N_19 es_19 ys_19).2.1.length) (k3_25)]) tI25 (holds_blk (List.Mem.tail _ (List.Mem.tail _ (List.Mem.head _)))) rfl some_lit rfl rfl) rfl rfl rfl ?_
            refine wl_v (ov_loadAgg (vs := [.int .i64 ((fctV N_19 es_19 ys_19).1), .slice A3_31 ((fctV N_19 es_19 ys_19).2.1.length) (k3_31)]) tI25 (holds_blk (List.Mem.head _)) rfl some_lit rfl rfl) rfl rfl rfl ?_
            refine wl_r (or_call (fv := []) (vs := [.agg #[.int .i64 ((fctV N_19 es_19 ys_19).1), .slice A3_25 ((fctV N_19 es_19 ys_19).2.1.length) (k3_25)], .agg #[.int .i64 ((fctV N_19 es_19 ys_19).1), .slice A3_31 ((fctV N_19 es_19 ys_19).2.1.length) (k3_31)]]) (cs := []) en28 rfl rfl (call_v (fun w hw => equalGraph_c w ((fctV N_19 es_19 ys_19).1) A3_25 ((fctV N_19 es_19 ys_19).2.1.length) k3_25 ((fctV N_19 es_19 ys_19).2.1) ((fctV N_19 es_19 ys_19).1) A3_31 ((fctV N_19 es_19 ys_19).2.1.length) k3_31 ((fctV N_19 es_19 ys_19).2.1) ((holds_row (List.Mem.tail _ (List.Mem.tail _ (List.Mem.tail _ (List.Mem.head _))))) w hw) rfl h_25 ((holds_row (List.Mem.tail _ (List.Mem.head _))) w hw) rfl h_31 (by omega)))) rfl rfl (kt_if rfl (fun c62 => ?_) (fun c62 => ?_))
            ·
              refine wl_v (ov_move rfl) rfl rfl rfl ?_
              refine wl_go rfl rfl ?_
              refine wl_v (ov_move rfl) rfl rfl rfl ?_
              refine wl_go rfl rfl ?_
              refine wl_v (ov_move rfl) rfl rfl rfl ?_
              refine wl_go rfl rfl ?_
              refine wl_if (OpV.dec (ov_eqlb uI4 rfl rfl)) rfl rfl rfl (fun c66 => ?_) (fun c66 => ?_)
              ·
                refine wl_v (ov_pick_t rfl rfl) rfl rfl rfl ?_
                refine wl_v (ov_assign rfl) rfl rfl rfl ?_
                refine wl_nil ?_
                refine ce_then ?_
                refine cw_ret ?_
                refine ce_then_ret ?_
                refine ce_results (v := .bool true) (res1 rfl (rv_t rfl)) (fun w' hw => ?_)
                exact ⟨rfl, (Keep.nil.ss hw).to_new⟩
              ·
                simp at c66
            ·
              exact absurd ⟨rfl, rfl⟩ c62
        ·
          refine wl_go rfl rfl ?_
          refine wl_v (ov_not rfl) rfl rfl rfl ?_
          refine wl_v (ov_pick_f rfl rfl) rfl rfl rfl ?_
          refine wl_v (ov_move rfl) rfl rfl rfl ?_
          refine wl_not rfl rfl rfl rfl rfl rfl ?_
          refine wl_not rfl rfl rfl rfl rfl rfl ?_
          refine wl_not rfl rfl rfl rfl rfl rfl ?_
          refine wl_v (ov_pick_t rfl rfl) rfl rfl rfl ?_
          refine wl_v (ov_move rfl) rfl rfl rfl ?_
          refine wl_not rfl rfl rfl rfl rfl rfl ?_
          refine wl_not rfl rfl rfl rfl rfl rfl ?_
          refine wl_not rfl rfl rfl rfl rfl rfl ?_
          refine wl_not rfl rfl rfl rfl rfl rfl ?_
          refine wl_not rfl rfl rfl rfl rfl rfl ?_
          refine wl_v (ov_pick_t rfl rfl) rfl rfl rfl ?_
          refine wl_nil ?_
          refine ce_then ?_
          refine cw_true rfl ?_
          refine cw_seq ?_
          refine cw_region ?_
          refine wl_v (ov_loadAgg (vs := [.int .i64 ((fctV N_19 es_19 ys_19).1), .slice A3_25 ((fctV N_19 es_19 ys_19).2.1.length) (k3_25)]) tI25 (holds_blk (List.Mem.tail _ (List.Mem.tail _ (List.Mem.head _)))) rfl some_lit rfl rfl) rfl rfl rfl ?_
          refine wl_v (ov_loadAgg (vs := [.int .i64 ((fctV N_19 es_19 ys_19).1), .slice A3_31 ((fctV N_19 es_19 ys_19).2.1.length) (k3_31)]) tI25 (holds_blk (List.Mem.head _)) rfl some_lit rfl rfl) rfl rfl rfl ?_
          refine wl_r (or_call (fv := []) (vs := [.agg #[.int .i64 ((fctV N_19 es_19 ys_19).1), .slice A3_25 ((fctV N_19 es_19 ys_19).2.1.length) (k3_25)], .agg #[.int .i64 ((fctV N_19 es_19 ys_19).1), .slice A3_31 ((fctV N_19 es_19 ys_19).2.1.length) (k3_31)]]) (cs := []) en28 rfl rfl (call_v (fun w hw => equalGraph_c w ((fctV N_19 es_19 ys_19).1) A3_25 ((fctV N_19 es_19 ys_19).2.1.length) k3_25 ((fctV N_19 es_19 ys_19).2.1) ((fctV N_19 es_19 ys_19).1) A3_31 ((fctV N_19 es_19 ys_19).2.1.length) k3_31 ((fctV N_19 es_19 ys_19).2.1) ((holds_row (List.Mem.tail _ (List.Mem.tail _ (List.Mem.tail _ (List.Mem.head _))))) w hw) rfl h_25 ((holds_row (List.Mem.tail _ (List.Mem.head _))) w hw) rfl h_31 (by omega)))) rfl rfl (kt_if rfl (fun c62 => ?_) (fun c62 => ?_))
          ·
            refine wl_v (ov_move rfl) rfl rfl rfl ?_
            refine wl_go rfl rfl ?_
            refine wl_v (ov_move rfl) rfl rfl rfl ?_
            refine wl_go rfl rfl ?_
            refine wl_v (ov_move rfl) rfl rfl rfl ?_
            refine wl_go rfl rfl ?_
            refine wl_if (OpV.dec (ov_eqlb uI4 rfl rfl)) rfl rfl rfl (fun c66 => ?_) (fun c66 => ?_)
            ·
              refine wl_v (ov_pick_t rfl rfl) rfl rfl rfl ?_
              refine wl_v (ov_assign rfl) rfl rfl rfl ?_
              refine wl_nil ?_
              refine ce_then ?_
              refine cw_ret ?_
              refine ce_then_ret ?_
              refine ce_results (v := .bool true) (res1 rfl (rv_t rfl)) (fun w' hw => ?_)
              exact ⟨rfl, (Keep.nil.ss hw).to_new⟩
            ·
              simp at c66
          ·
            exact absurd ⟨rfl, rfl⟩ c62
    ·
      exact absurd ⟨rfl, rfl⟩ c36
end Go.Proofs.Ytfjgfocjogfodaa.LFnFactorOf
