/- Walks of functions of the given program: each returns what its Lean function says and leaves the memory that was there as it was. Conditions: those of each theorem. -/
import Derived.Test.YtkkllkkjdbpjpaaSm
import Derived.Test.YtkkllkkjdbpjpaaProg
import Derived.Test.YtkkllkkjdbpjpaaPl
import Derived.Test.YtkkllkkjdbpjpaaPo
import Derived.Test.YtkkllkkjdbpjpaaPd
import Derived.Test.YtkkllkkjdbpjpaaPe
import Derived.Test.YtkkllkkjdbpjpaaPh
import Derived.Test.YtkkllkkjdbpjpaaPm
import Derived.Test.YtkkllkkjdbpjpaaPc
import Derived.Test.YtkkllkkjdbpjpaaPs
import Derived.Test.YtkkllkkjdbpjpaaPt
import Derived.Test.YtkkllkkjdbpjpaaPu
import Derived.Test.YtkkllkkjdbpjpaaPv
import Derived.Test.YtkkllkkjdbpjpaaPw
import Derived.Test.YtkkllkkjdbpjpaaPx
import Derived.Test.YtkkllkkjdbpjpaaPy
import Derived.Test.YtkkllkkjdbpjpaaPz
import Derived.Test.YtkkllkkjdbpjpaaPr
import Derived.Test.YtkkllkkjdbpjpaaPa
import Derived.Test.YtkkllkkjdbpjpaaPn
import Derived.Test.YtkkllkkjdbpjpaaPj
import Derived.Test.YtkkllkkjdbpjpaaPq
import Derived.Test.YtkkllkkjdbpjpaaSp
import Derived.Test.YtkkllkkjdbpjpaaPp
import Derived.Test.YtkkllkkjdbpjpaaSs
import Derived.Test.YtkkllkkjdbpjpaaSr
import Derived.Test.YtkkllkkjdbpjpaaPb
import Derived.Test.YtkkllkkjdbpjpaaSe
import Derived.Test.YtkkllkkjdbpjpaaSf
import Derived.Test.YtkkllkkjdbpjpaaT
import Derived.Test.YtkkllkkjdbpjpaaW2
import Derived.Test.YtkkllkkjdbpjpaaW5
import Derived.Test.YtkkllkkjdbpjpaaW46
import Derived.KernelRfl
namespace Go.Proofs.Ytkkllkkjdbpjpaa.LFnExactTreeOfCode
open Go.Sx Go.RowKit Go.Proofs.Ytkkllkkjdbpjpaa.T Go.Proofs.Ytkkllkkjdbpjpaa.W2 Go.Proofs.Ytkkllkkjdbpjpaa.W5 Go.Proofs.Ytkkllkkjdbpjpaa.W46
open Go.Plain
set_option linter.unusedVariables false
set_option maxRecDepth 100000 in
theorem FnExactTreeOfCode_c (w : World) (A : Option Addr) (n : Nat) (c : Nat) (xs : List (Int)) (hA : At w A (cells fI xs)) (eA : xs.length = n) (lA : n ≤ c) : Calls Try.prog 5 #[.slice A (n) (c)] w (Ret fun rv w' => rv = .bool true ∧ New w w' []) := by
  have oA := hA.atB
  subst eA
  have hll := tocV_len xs
  refine fn_enter (args := [.slice A (xs.length) (c)]) Try.func5 rfl Try.ntmps5 rfl (SS.start w) ?_
  refine cw_seq ?_
  refine cw_region ?_
  refine wl_v (ov_assign rfl) rfl rfl rfl ?_
  refine wl_nil ?_
  refine ce_then ?_
  refine cw_seq ?_
  refine cw_seq ?_
  refine cw_region ?_
  refine wl_v (ov_move rfl) rfl rfl rfl ?_
  refine wl_v (ov_len (sliceI_spec sI38) rfl) rfl rfl rfl ?_
  refine wl_if (ov_gtr rfl rfl) rfl rfl rfl (fun c15 => ?_) (fun c15 => ?_)
  ·
    refine wl_nil ?_
    refine ce_then ?_
    refine cw_true rfl ?_
    refine cw_seq ?_
    refine cw_region ?_
    refine wl_v (ov_assign rfl) rfl rfl rfl ?_
    refine wl_nil ?_
    refine ce_then ?_
    refine cw_ret ?_
    refine ce_then_ret ?_
    refine ce_results (v := .bool true) (res1 rfl (rv_t rfl)) (fun w' hw => ?_)
    exact ⟨rfl, (Keep.nil.ss hw).to_new⟩
  ·
    refine wl_nil ?_
    refine ce_then ?_
    refine cw_false rfl ?_
    refine cw_skip ?_
    refine ce_then ?_
    refine cw_seq ?_
    refine cw_region ?_
    refine wl_v (ov_move rfl) rfl rfl rfl ?_
    refine wl_r (or_call (fv := []) (vs := [.slice A (xs.length) (c)]) (cs := []) en23 rfl rfl (call_x1 (fun w hw => toIntS_c w A xs.length c xs ((holds_old oA) w hw) rfl lA (by first | assumption | omega | (simp; omega))))) rfl rfl (kt1p rfl (fun g_18 h_18 => ?_))
    refine wl_r (or_call (fv := []) (vs := [.slice (some ⟨g_18, 0, none⟩) (xs.length) (xs.length)]) (cs := []) en22 rfl rfl (call_x3 (fun w hw => TreeOfCodeS_c w (some ⟨g_18, 0, none⟩) xs.length xs.length xs ((holds_row (List.Mem.head _)) w hw) rfl (Nat.le_refl _) (by first | assumption | omega | (simp; omega))))) rfl rfl (kt3p rfl (fun A2_19 k2_19 c2_19 h_19 => ?_))
    refine wl_v (ov_move rfl) rfl rfl rfl ?_
    refine wl_v (ov_extract rfl rfl) rfl rfl rfl ?_
    refine wl_v (ov_extract rfl rfl) rfl rfl rfl ?_
    refine wl_r (or_alloc tI25 rfl) rfl rfl (kt1 rfl (fun g3 => ?_))
    refine wl_r0 (or_store_blk (vs := [.int .i64 ((tocV xs).1), .slice A2_19 ((tocV xs).2.1.length) (k2_19)]) (cs' := [.int .i64 ((tocV xs).1), .slice A2_19 ((tocV xs).2.1.length) (k2_19)]) (.head) tI25 rfl rfl rfl rfl (Nat.le_of_ble_eq_true rfl) rfl) rfl rfl (kn0 ?_)
    refine wl_v (ov_assign rfl) rfl rfl rfl ?_
    refine wl_nil ?_
    refine ce_then ?_
    refine cw_seq ?_
    refine cw_region ?_
    refine wl_v (ov_move rfl) rfl rfl rfl ?_
    refine wl_r (or_call (fv := []) (vs := [.slice A (xs.length) (c)]) (cs := []) en23 rfl rfl (call_x1 (fun w hw => toIntS_c w A xs.length c xs ((holds_old oA) w hw) rfl lA (by first | assumption | omega | (simp; omega))))) rfl rfl (kt1p rfl (fun g_23 h_23 => ?_))
    refine wl_v (ov_assign rfl) rfl rfl rfl ?_
    refine wl_nil ?_
    refine ce_then ?_
    refine cw_seq ?_
    refine cw_region ?_
    refine wl_v (ov_move rfl) rfl rfl rfl ?_
    refine wl_r (or_call (fv := []) (vs := [.slice (some ⟨g_23, 0, none⟩) (xs.length) (xs.length)]) (cs := []) en24 rfl rfl (call_x3 (fun w hw => TreeOfCodeI_c w (some ⟨g_23, 0, none⟩) xs.length xs.length xs ((holds_row (List.Mem.head _)) w hw) rfl (Nat.le_refl _) (by first | assumption | omega | (simp; omega))))) rfl rfl (kt3p rfl (fun A2_26 k2_26 c2_26 h_26 => ?_))
    refine wl_v (ov_move rfl) rfl rfl rfl ?_
    refine wl_v (ov_extract rfl rfl) rfl rfl rfl ?_
    refine wl_v (ov_extract rfl rfl) rfl rfl rfl ?_
    refine wl_r (or_alloc tI25 rfl) rfl rfl (kt1 rfl (fun g6 => ?_))
    refine wl_r0 (or_store_blk (vs := [.int .i64 ((tocV xs).1), .slice A2_26 ((tocV xs).2.1.length) (k2_26)]) (cs' := [.int .i64 ((tocV xs).1), .slice A2_26 ((tocV xs).2.1.length) (k2_26)]) (.head) tI25 rfl rfl rfl rfl (Nat.le_of_ble_eq_true rfl) rfl) rfl rfl (kn0 ?_)
    refine wl_v (ov_assign rfl) rfl rfl rfl ?_
    refine wl_nil ?_
    refine ce_then ?_
    refine cw_seq ?_
    refine cw_seq ?_
    refine cw_region ?_
    refine wl_v (ov_loadAgg (vs := [.int .i64 ((tocV xs).1), .slice A2_26 ((tocV xs).2.1.length) (k2_26)]) tI25 (holds_blk (List.Mem.head _)) rfl some_lit rfl rfl) rfl rfl rfl ?_
    refine wl_v (ov_loadAgg (vs := [.int .i64 ((tocV xs).1), .slice A2_19 ((tocV xs).2.1.length) (k2_19)]) tI25 (holds_blk (List.Mem.tail _ (List.Mem.tail _ (List.Mem.tail _ (List.Mem.head _))))) rfl some_lit rfl rfl) rfl rfl rfl ?_
    refine wl_r (or_call (fv := []) (vs := [.agg #[.int .i64 ((tocV xs).1), .slice A2_26 ((tocV xs).2.1.length) (k2_26)], .agg #[.int .i64 ((tocV xs).1), .slice A2_19 ((tocV xs).2.1.length) (k2_19)]]) (cs := []) en18 rfl rfl (call_v (fun w hw => eqGraph_c w ((tocV xs).1) A2_26 ((tocV xs).2.1.length) k2_26 ((tocV xs).2.1) ((tocV xs).1) A2_19 ((tocV xs).2.1.length) k2_19 ((tocV xs).2.1) ((holds_row (List.Mem.tail _ (List.Mem.head _))) w hw) rfl h_26 ((holds_row (List.Mem.tail _ (List.Mem.tail _ (List.Mem.tail _ (List.Mem.tail _ (List.Mem.head _)))))) w hw) rfl h_19 (by first | assumption | omega | (simp; omega))))) rfl rfl (kt_if rfl (fun c31 => ?_) (fun c31 => ?_))
    ·
      refine wl_v (ov_not rfl) rfl rfl rfl ?_
      refine wl_v (ov_move rfl) rfl rfl rfl ?_
      refine wl_go rfl rfl ?_
      refine wl_v (ov_move rfl) rfl rfl rfl ?_
      refine wl_go rfl rfl ?_
      refine wl_v (ov_move rfl) rfl rfl rfl ?_
      refine wl_go rfl rfl ?_
      refine wl_if (OpV.dec (ov_neqb uI4 rfl rfl)) rfl rfl rfl (fun c36 => ?_) (fun c36 => ?_)
      ·
        first | (exfalso; omega) | exact absurd rfl c36 | exact absurd (by simp) c36 | (exfalso; simp at c36; omega) | exact absurd ⟨rfl, rfl⟩ c36 | (simp at c36)
      ·
        refine wl_v (ov_pick_f rfl rfl) rfl rfl rfl ?_
        refine wl_nil ?_
        refine ce_then ?_
        refine cw_false rfl ?_
        refine cw_skip ?_
        refine ce_then ?_
        refine cw_seq ?_
        refine cw_seq ?_
        refine cw_region ?_
        refine wl_v (ov_move rfl) rfl rfl rfl ?_
        refine wl_v (ov_move rfl) rfl rfl rfl ?_
        refine wl_r (or_call (fv := []) (vs := [.slice A (xs.length) (c)]) (cs := []) en23 rfl rfl (call_x1 (fun w hw => toIntS_c w A xs.length c xs ((holds_old oA) w hw) rfl lA (by first | assumption | omega | (simp; omega))))) rfl rfl (kt1p rfl (fun g_40 h_40 => ?_))
        refine wl_r (or_call (fv := []) (vs := [.slice (some ⟨g_23, 0, none⟩) (xs.length) (xs.length), .slice (some ⟨g_40, 0, none⟩) (xs.length) (xs.length)]) (cs := []) en17 rfl rfl (call_v (fun w hw => eqIntS_c w (some ⟨g_23, 0, none⟩) xs.length xs.length xs (some ⟨g_40, 0, none⟩) xs.length xs.length xs ((holds_row (List.Mem.tail _ (List.Mem.tail _ (List.Mem.tail _ (List.Mem.head _))))) w hw) rfl (Nat.le_refl _) ((holds_row (List.Mem.head _)) w hw) rfl (Nat.le_refl _) (by first | assumption | omega | (simp; omega))))) rfl rfl (kt_if rfl (fun c41 => ?_) (fun c41 => ?_))
        ·
          refine wl_v (ov_not rfl) rfl rfl rfl ?_
          refine wl_nil ?_
          refine ce_then ?_
          refine cw_false rfl ?_
          refine cw_skip ?_
          refine ce_then ?_
          refine cw_seq ?_
          refine cw_region ?_
          refine wl_v (ov_assign rfl) rfl rfl rfl ?_
          refine wl_nil ?_
          refine ce_then ?_
          refine cw_seq ?_
          refine cw_region ?_
          refine wl_v (ov_move rfl) rfl rfl rfl ?_
          refine wl_v (ov_move rfl) rfl rfl rfl ?_
          refine wl_r (or_call (fv := []) (vs := [.slice (some ⟨g_23, 0, none⟩) (xs.length) (xs.length), .int .i64 (1)]) (cs := []) en20 rfl rfl (call_m (.tail (.tail (.tail .head))) (fun w hw => markIntS_c w _ _ _ (some ⟨g_23, 0, none⟩) xs.length xs.length xs.length xs 1 rfl (Nat.le_refl _) (by first | assumption | omega | (simp; omega)) (by first | assumption | omega | (simp; omega)) hw))) rfl rfl (kt0 rfl ?_)
          refine wl_v (ov_assign rfl) rfl rfl rfl ?_
          refine wl_nil ?_
          refine ce_then ?_
          refine cw_seq ?_
          refine cw_seq ?_
          refine cw_region ?_
          refine wl_v (ov_move rfl) rfl rfl rfl ?_
          refine wl_if (ov_lss rfl rfl) rfl rfl rfl (fun c47 => ?_) (fun c47 => ?_)
          ·
            first | (exfalso; omega) | exact absurd rfl c47 | exact absurd (by simp) c47 | (exfalso; simp at c47; omega) | exact absurd ⟨rfl, rfl⟩ c47 | (simp at c47)
          ·
            refine wl_v (ov_move rfl) rfl rfl rfl ?_
            refine wl_go rfl rfl ?_
            refine wl_v (ov_loadAgg (vs := [.int .i64 ((tocV xs).1), .slice A2_26 ((tocV xs).2.1.length) (k2_26)]) tI25 (holds_blk (List.Mem.tail _ (List.Mem.tail _ (List.Mem.head _)))) rfl some_lit rfl rfl) rfl rfl rfl ?_
            refine wl_go rfl rfl ?_
            refine wl_v (ov_loadAgg (vs := [.int .i64 ((tocV xs).1), .slice A2_19 ((tocV xs).2.1.length) (k2_19)]) tI25 (holds_blk (List.Mem.tail _ (List.Mem.tail _ (List.Mem.tail _ (List.Mem.tail _ (List.Mem.head _)))))) rfl some_lit rfl rfl) rfl rfl rfl ?_
            refine wl_go rfl rfl ?_
            refine wl_r (or_call (fv := []) (vs := [.agg #[.int .i64 ((tocV xs).1), .slice A2_26 ((tocV xs).2.1.length) (k2_26)], .agg #[.int .i64 ((tocV xs).1), .slice A2_19 ((tocV xs).2.1.length) (k2_19)]]) (cs := []) en18 rfl rfl (call_v (fun w hw => eqGraph_c w ((tocV xs).1) A2_26 ((tocV xs).2.1.length) k2_26 ((tocV xs).2.1) ((tocV xs).1) A2_19 ((tocV xs).2.1.length) k2_19 ((tocV xs).2.1) ((holds_row (List.Mem.tail _ (List.Mem.tail _ (List.Mem.tail _ (List.Mem.head _))))) w hw) rfl h_26 ((holds_row (List.Mem.tail _ (List.Mem.tail _ (List.Mem.tail _ (List.Mem.tail _ (List.Mem.tail _ (List.Mem.head _))))))) w hw) rfl h_19 (by first | assumption | omega | (simp; omega))))) rfl rfl (kt_if rfl (fun c51 => ?_) (fun c51 => ?_))
            ·
              refine wl_go rfl rfl ?_
              refine wl_v (ov_not rfl) rfl rfl rfl ?_
              refine wl_v (ov_pick_f rfl rfl) rfl rfl rfl ?_
              refine wl_v (ov_move rfl) rfl rfl rfl ?_
              refine wl_go rfl rfl ?_
              refine wl_v (ov_move rfl) rfl rfl rfl ?_
              refine wl_go rfl rfl ?_
              refine wl_v (ov_move rfl) rfl rfl rfl ?_
              refine wl_go rfl rfl ?_
              refine wl_if (OpV.dec (ov_neqb uI4 rfl rfl)) rfl rfl rfl (fun c57 => ?_) (fun c57 => ?_)
              ·
                first | (exfalso; omega) | exact absurd rfl c57 | exact absurd (by simp) c57 | (exfalso; simp at c57; omega) | exact absurd ⟨rfl, rfl⟩ c57 | (simp at c57)
              ·
                refine wl_v (ov_pick_f rfl rfl) rfl rfl rfl ?_
                refine wl_nil ?_
                refine ce_then ?_
                refine cw_false rfl ?_
                refine cw_skip ?_
                refine ce_then ?_
                refine cw_seq ?_
                refine cw_region ?_
                refine wl_v (ov_assign rfl) rfl rfl rfl ?_
                refine wl_nil ?_
                refine ce_then ?_
                refine cw_seq ?_
                refine cw_region ?_
                refine wl_v (ov_loadAgg (vs := [.int .i64 ((tocV xs).1), .slice A2_26 ((tocV xs).2.1.length) (k2_26)]) tI25 (holds_blk (List.Mem.tail _ (List.Mem.tail _ (List.Mem.head _)))) rfl some_lit rfl rfl) rfl rfl rfl ?_
                refine wl_v (ov_move rfl) rfl rfl rfl ?_
                refine wl_r (or_call (fv := []) (vs := [.agg #[.int .i64 ((tocV xs).1), .slice A2_26 ((tocV xs).2.1.length) (k2_26)], .int .i64 (1)]) (cs := []) en19 rfl rfl (call_m (.tail (.tail (.tail .head))) (fun w hw => markGraph_c w _ _ _ A2_26 ((tocV xs).2.1.length) c2_26 k2_26 ((tocV xs).2.1) 1 ((tocV xs).1) rfl h_26 (by first | assumption | omega | (simp; omega)) (by first | assumption | omega | (simp; omega)) hw))) rfl rfl (kt0 rfl ?_)
                refine wl_v (ov_assign rfl) rfl rfl rfl ?_
                refine wl_nil ?_
                refine ce_then ?_
                refine cw_seq ?_
                refine cw_region ?_
                refine wl_v (ov_assign rfl) rfl rfl rfl ?_
                refine wl_nil ?_
                refine ce_then ?_
                refine cw_seq ?_
                refine cw_region ?_
                refine wl_v (ov_loadAgg (vs := [.int .i64 ((tocV xs).1), .slice A2_26 ((tocV xs).2.1.length) (k2_26)]) tI25 (holds_blk (List.Mem.tail _ (List.Mem.tail _ (List.Mem.tail _ (List.Mem.head _))))) rfl some_lit rfl rfl) rfl rfl rfl ?_
                refine wl_v (ov_move rfl) rfl rfl rfl ?_
                refine wl_r (or_call (fv := []) (vs := [.agg #[.int .i64 ((tocV xs).1), .slice A2_26 ((tocV xs).2.1.length) (k2_26)], .int .i64 (1)]) (cs := []) en25 rfl rfl (call_v (fun w hw => heldGraph_c w ((tocV xs).1) A2_26 ((tocV xs).2.1.length) k2_26 (marksE 1 ((tocV xs).2.1.length)) 1 ((holds_row (List.Mem.head _)) w hw) (marksE_length _ _) h_26 (by first | omega | (rw [marksE_length]; omega)) (by first | assumption | omega | (simp; omega))))) rfl rfl (kt0 rfl ?_)
                refine wl_v (ov_assign rfl) rfl rfl rfl ?_
                refine wl_nil ?_
                refine ce_then ?_
                refine cw_seq ?_
                refine cw_seq ?_
                refine cw_region ?_
                refine wl_v (ov_move rfl) rfl rfl rfl ?_
                refine wl_if (ov_lss rfl rfl) rfl rfl rfl (fun c66 => ?_) (fun c66 => ?_)
                ·
                  first | (exfalso; omega) | exact absurd rfl c66 | exact absurd (by simp) c66 | (exfalso; simp at c66; omega) | exact absurd ⟨rfl, rfl⟩ c66 | (simp at c66)
                ·
                  refine wl_nil ?_
                  refine ce_then ?_
                  refine cw_false rfl ?_
                  refine cw_skip ?_
                  refine ce_then ?_
                  refine cw_seq ?_
                  refine cw_seq ?_
                  refine cw_region ?_
                  refine wl_v (ov_move rfl) rfl rfl rfl ?_
                  refine wl_v (ov_move rfl) rfl rfl rfl ?_
                  refine wl_if (ov_neq rfl rfl) rfl rfl rfl (fun c69 => ?_) (fun c69 => ?_)
                  ·
                    first | (exfalso; omega) | exact absurd rfl c69 | exact absurd (by simp) c69 | (exfalso; simp at c69; omega) | exact absurd ⟨rfl, rfl⟩ c69 | (simp at c69)
                  ·
                    refine wl_nil ?_
                    refine ce_then ?_
                    refine cw_false rfl ?_
                    refine cw_skip ?_
                    refine ce_then ?_
                    refine cw_seq ?_
                    refine cw_region ?_
                    refine wl_v (ov_move rfl) rfl rfl rfl ?_
                    refine wl_r (or_call (fv := []) (vs := [.slice A (xs.length) (c)]) (cs := []) en23 rfl rfl (call_x1 (fun w hw => toIntS_c w A xs.length c xs ((holds_old oA) w hw) rfl lA (by first | assumption | omega | (simp; omega))))) rfl rfl (kt1p rfl (fun g_72 h_72 => ?_))
                    refine wl_r (or_call (fv := []) (vs := [.slice (some ⟨g_72, 0, none⟩) (xs.length) (xs.length)]) (cs := []) en24 rfl rfl (call_x3 (fun w hw => TreeOfCodeI_c w (some ⟨g_72, 0, none⟩) xs.length xs.length xs ((holds_row (List.Mem.head _)) w hw) rfl (Nat.le_refl _) (by first | assumption | omega | (simp; omega))))) rfl rfl (kt3p rfl (fun A2_73 k2_73 c2_73 h_73 => ?_))
                    refine wl_v (ov_move rfl) rfl rfl rfl ?_
                    refine wl_v (ov_extract rfl rfl) rfl rfl rfl ?_
                    refine wl_v (ov_extract rfl rfl) rfl rfl rfl ?_
                    refine wl_r (or_alloc tI25 rfl) rfl rfl (kt1 rfl (fun g11 => ?_))
                    refine wl_r0 (or_store_blk (vs := [.int .i64 ((tocV xs).1), .slice A2_73 ((tocV xs).2.1.length) (k2_73)]) (cs' := [.int .i64 ((tocV xs).1), .slice A2_73 ((tocV xs).2.1.length) (k2_73)]) (.head) tI25 rfl rfl rfl rfl (Nat.le_of_ble_eq_true rfl) rfl) rfl rfl (kn0 ?_)
                    refine wl_v (ov_assign rfl) rfl rfl rfl ?_
                    refine wl_nil ?_
                    refine ce_then ?_
                    refine cw_seq ?_
                    refine cw_seq ?_
                    refine cw_region ?_
                    refine wl_v (ov_loadAgg (vs := [.int .i64 ((tocV xs).1), .slice A2_73 ((tocV xs).2.1.length) (k2_73)]) tI25 (holds_blk (List.Mem.head _)) rfl some_lit rfl rfl) rfl rfl rfl ?_
                    refine wl_v (ov_loadAgg (vs := [.int .i64 ((tocV xs).1), .slice A2_19 ((tocV xs).2.1.length) (k2_19)]) tI25 (holds_blk (List.Mem.tail _ (List.Mem.tail _ (List.Mem.tail _ (List.Mem.tail _ (List.Mem.tail _ (List.Mem.tail _ (List.Mem.tail _ (List.Mem.head _))))))))) rfl some_lit rfl rfl) rfl rfl rfl ?_
                    refine wl_r (or_call (fv := []) (vs := [.agg #[.int .i64 ((tocV xs).1), .slice A2_73 ((tocV xs).2.1.length) (k2_73)], .agg #[.int .i64 ((tocV xs).1), .slice A2_19 ((tocV xs).2.1.length) (k2_19)]]) (cs := []) en18 rfl rfl (call_v (fun w hw => eqGraph_c w ((tocV xs).1) A2_73 ((tocV xs).2.1.length) k2_73 ((tocV xs).2.1) ((tocV xs).1) A2_19 ((tocV xs).2.1.length) k2_19 ((tocV xs).2.1) ((holds_row (List.Mem.tail _ (List.Mem.head _))) w hw) rfl h_73 ((holds_row (List.Mem.tail _ (List.Mem.tail _ (List.Mem.tail _ (List.Mem.tail _ (List.Mem.tail _ (List.Mem.tail _ (List.Mem.tail _ (List.Mem.tail _ (List.Mem.head _)))))))))) w hw) rfl h_19 (by first | assumption | omega | (simp; omega))))) rfl rfl (kt_if rfl (fun c78 => ?_) (fun c78 => ?_))
                    ·
                      refine wl_v (ov_not rfl) rfl rfl rfl ?_
                      refine wl_v (ov_move rfl) rfl rfl rfl ?_
                      refine wl_go rfl rfl ?_
                      refine wl_v (ov_move rfl) rfl rfl rfl ?_
                      refine wl_go rfl rfl ?_
                      refine wl_v (ov_move rfl) rfl rfl rfl ?_
                      refine wl_go rfl rfl ?_
                      refine wl_if (OpV.dec (ov_neqb uI4 rfl rfl)) rfl rfl rfl (fun c83 => ?_) (fun c83 => ?_)
                      ·
                        first | (exfalso; omega) | exact absurd rfl c83 | exact absurd (by simp) c83 | (exfalso; simp at c83; omega) | exact absurd ⟨rfl, rfl⟩ c83 | (simp at c83)
                      ·
                        refine wl_v (ov_pick_f rfl rfl) rfl rfl rfl ?_
                        refine wl_nil ?_
                        refine ce_then ?_
                        refine cw_false rfl ?_
                        refine cw_skip ?_
                        refine ce_then ?_
                        refine cw_seq ?_
                        refine cw_region ?_
                        refine wl_v (ov_assign rfl) rfl rfl rfl ?_
                        refine wl_nil ?_
                        refine ce_then ?_
                        refine cw_seq ?_
                        refine cw_region ?_
                        refine wl_v (ov_loadAgg (vs := [.int .i64 ((tocV xs).1), .slice A2_26 ((tocV xs).2.1.length) (k2_26)]) tI25 (holds_blk (List.Mem.tail _ (List.Mem.tail _ (List.Mem.tail _ (List.Mem.tail _ (List.Mem.tail _ (List.Mem.tail _ (List.Mem.head _)))))))) rfl some_lit rfl rfl) rfl rfl rfl ?_
                        refine wl_v (ov_move rfl) rfl rfl rfl ?_
                        refine wl_r (or_call (fv := []) (vs := [.agg #[.int .i64 ((tocV xs).1), .slice A2_26 ((tocV xs).2.1.length) (k2_26)], .int .i64 (1)]) (cs := []) en25 rfl rfl (call_v (fun w hw => heldGraph_c w ((tocV xs).1) A2_26 ((tocV xs).2.1.length) k2_26 (marksE 1 ((tocV xs).2.1.length)) 1 ((holds_row (List.Mem.tail _ (List.Mem.tail _ (List.Mem.tail _ (List.Mem.head _))))) w hw) (marksE_length _ _) h_26 (by first | omega | (rw [marksE_length]; omega)) (by first | assumption | omega | (simp; omega))))) rfl rfl (kt0 rfl ?_)
                        refine wl_v (ov_assign rfl) rfl rfl rfl ?_
                        refine wl_nil ?_
                        refine ce_then ?_
                        refine cw_seq ?_
                        refine cw_seq ?_
                        refine cw_region ?_
                        refine wl_v (ov_move rfl) rfl rfl rfl ?_
                        refine wl_if (ov_lss rfl rfl) rfl rfl rfl (fun c89 => ?_) (fun c89 => ?_)
                        ·
                          first | (exfalso; omega) | exact absurd rfl c89 | exact absurd (by simp) c89 | (exfalso; simp at c89; omega) | exact absurd ⟨rfl, rfl⟩ c89 | (simp at c89)
                        ·
                          refine wl_nil ?_
                          refine ce_then ?_
                          refine cw_false rfl ?_
                          refine cw_skip ?_
                          refine ce_then ?_
                          refine cw_seq ?_
                          refine cw_seq ?_
                          refine cw_region ?_
                          refine wl_v (ov_move rfl) rfl rfl rfl ?_
                          refine wl_v (ov_move rfl) rfl rfl rfl ?_
                          refine wl_if (ov_neq rfl rfl) rfl rfl rfl (fun c92 => ?_) (fun c92 => ?_)
                          ·
                            first | (exfalso; omega) | exact absurd rfl c92 | exact absurd (by simp) c92 | (exfalso; simp at c92; omega) | exact absurd ⟨rfl, rfl⟩ c92 | (simp at c92)
                          ·
                            refine wl_nil ?_
                            refine ce_then ?_
                            refine cw_false rfl ?_
                            refine cw_skip ?_
                            refine ce_then ?_
                            refine cw_seq ?_
                            refine cw_region ?_
                            refine wl_v (ov_assign rfl) rfl rfl rfl ?_
                            refine wl_nil ?_
                            refine ce_then ?_
                            refine cw_ret ?_
                            refine ce_results (v := .bool true) (res1 rfl (rv_t rfl)) (fun w' hw => ?_)
                            exact ⟨rfl, (Keep.nil.ss hw).to_new⟩
                    ·
                      first | (exfalso; omega) | exact absurd rfl c78 | exact absurd (by simp) c78 | (exfalso; simp at c78; omega) | exact absurd ⟨rfl, rfl⟩ c78 | (simp at c78)
            ·
              first | (exfalso; omega) | exact absurd rfl c51 | exact absurd (by simp) c51 | (exfalso; simp at c51; omega) | exact absurd ⟨rfl, rfl⟩ c51 | (simp at c51)
        ·
          first | (exfalso; omega) | exact absurd rfl c41 | exact absurd (by simp) c41 | (exfalso; simp at c41; omega) | exact absurd ⟨rfl, rfl⟩ c41 | (simp at c41)
    ·
      first | (exfalso; omega) | exact absurd rfl c31 | exact absurd (by simp) c31 | (exfalso; simp at c31; omega) | exact absurd ⟨rfl, rfl⟩ c31 | (simp at c31)
end Go.Proofs.Ytkkllkkjdbpjpaa.LFnExactTreeOfCode
