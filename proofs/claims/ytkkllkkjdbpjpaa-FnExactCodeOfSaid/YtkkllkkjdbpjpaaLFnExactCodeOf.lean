/- Walks of functions of the given program: each returns what its Lean function says and leaves the memory that was there as it was. Conditions: those of each theorem. -/
import Derived.Test.YtkkllkkjdbpjpaaSm
import Derived.Test.YtkkllkkjdbpjpaaProg
import Derived.Test.YtkkllkkjdbpjpaaPl
import Derived.Test.YtkkllkkjdbpjpaaPo
import Derived.Test.YtkkllkkjdbpjpaaPd
import Derived.Test.YtkkllkkjdbpjpaaPe
import Derived.Test.YtkkllkkjdbpjpaaPh
import Derived.Test.YtkkllkkjdbpjpaaPm
import Derived.Test.YtkkllkkjdbpjpaaPc
import Derived.Test.YtkkllkkjdbpjpaaPs
import Derived.Test.YtkkllkkjdbpjpaaPt
import Derived.Test.YtkkllkkjdbpjpaaPu
import Derived.Test.YtkkllkkjdbpjpaaPv
import Derived.Test.YtkkllkkjdbpjpaaPw
import Derived.Test.YtkkllkkjdbpjpaaPx
import Derived.Test.YtkkllkkjdbpjpaaPy
import Derived.Test.YtkkllkkjdbpjpaaPz
import Derived.Test.YtkkllkkjdbpjpaaPr
import Derived.Test.YtkkllkkjdbpjpaaPa
import Derived.Test.YtkkllkkjdbpjpaaPn
import Derived.Test.YtkkllkkjdbpjpaaPj
import Derived.Test.YtkkllkkjdbpjpaaPq
import Derived.Test.YtkkllkkjdbpjpaaSp
import Derived.Test.YtkkllkkjdbpjpaaPp
import Derived.Test.YtkkllkkjdbpjpaaSs
import Derived.Test.YtkkllkkjdbpjpaaSr
import Derived.Test.YtkkllkkjdbpjpaaPb
import Derived.Test.YtkkllkkjdbpjpaaSe
import Derived.Test.YtkkllkkjdbpjpaaSf
import Derived.Test.YtkkllkkjdbpjpaaT
import Derived.Test.YtkkllkkjdbpjpaaW2
import Derived.Test.YtkkllkkjdbpjpaaW5
import Derived.Test.YtkkllkkjdbpjpaaW55
import Derived.Test.YtkkllkkjdbpjpaaW56
import Derived.KernelRfl
namespace Go.Proofs.Ytkkllkkjdbpjpaa.LFnExactCodeOf
open Go.Sx Go.RowKit Go.Proofs.Ytkkllkkjdbpjpaa.T Go.Proofs.Ytkkllkkjdbpjpaa.W2 Go.Proofs.Ytkkllkkjdbpjpaa.W5 Go.Proofs.Ytkkllkkjdbpjpaa.W55 Go.Proofs.Ytkkllkkjdbpjpaa.W56
open Go.Plain
set_option linter.unusedVariables false
set_option maxRecDepth 100000 in
theorem FnExactCodeOf_c (w : World) (N : Int) (A : Option Addr) (n : Nat) (c : Nat) (es : List (Int × Int)) (hA : At w A (cells fE es)) (eA : es.length = n) (lA : n ≤ c) (hN : -9223372036854775808 ≤ N ∧ N ≤ 9223372036854775807) (hn : n ≤ 9223372036854775807) : Calls Try.prog 7 #[.agg #[.int .i64 (N), .slice A (n) (c)]] w (Ret fun rv w' => rv = .bool true ∧ New w w' []) := by
  have oA := hA.atB
  subst eA
  have hll := codeC_len N es
  refine fn_enter (args := [.agg #[.int .i64 (N), .slice A (es.length) (c)]]) Try.func7 rfl Try.ntmps7 rfl (SS.start w) ?_
  refine cw_seq ?_
  refine cw_region ?_
  refine wl_r (or_box rfl rfl) rfl rfl (kt1 rfl (fun g1 => ?_))
  refine wl_v (ov_assign rfl) rfl rfl rfl ?_
  refine wl_nil ?_
  refine ce_then ?_
  refine cw_seq ?_
  refine cw_region ?_
  refine wl_v (ov_assign rfl) rfl rfl rfl ?_
  refine wl_nil ?_
  refine ce_then ?_
  refine cw_seq ?_
  refine cw_region ?_
  refine wl_v (ov_loadAgg (vs := [.int .i64 (N), .slice A (es.length) (c)]) tI36 (holds_blk (List.Mem.head _)) rfl some_lit rfl rfl) rfl rfl rfl ?_
  refine wl_v (ov_move rfl) rfl rfl rfl ?_
  refine wl_r (or_call (fv := []) (vs := [.agg #[.int .i64 (N), .slice A (es.length) (c)], .int .i64 (1048576)]) (cs := []) en13 rfl rfl (call_v (fun w hw => szGraph_c w N A es.length c es 1048576 ((holds_old oA) w hw) rfl lA (by first | assumption | omega | (simp; omega))))) rfl rfl (kt0 rfl ?_)
  refine wl_v (ov_assign rfl) rfl rfl rfl ?_
  refine wl_nil ?_
  refine ce_then ?_
  refine cw_seq ?_
  refine cw_seq ?_
  refine cw_region ?_
  refine wl_v (ov_move rfl) rfl rfl rfl ?_
  refine wl_if (ov_lss rfl rfl) rfl rfl rfl (fun c21 => ?_) (fun c21 => ?_)
  ·
    refine wl_nil ?_
    refine ce_then ?_
    refine cw_true rfl ?_
    refine cw_seq ?_
    refine cw_region ?_
    refine wl_v (ov_assign rfl) rfl rfl rfl ?_
    refine wl_nil ?_
    refine ce_then ?_
    refine cw_ret ?_
    refine ce_then_ret ?_
    refine ce_results (v := .bool true) (res1 rfl (rv_t rfl)) (fun w' hw => ?_)
    exact ⟨rfl, (Keep.nil.ss hw).to_new⟩
  ·
    have hsz21 : es.length ≤ 1048576 := by split at c21 <;> omega
    refine wl_nil ?_
    refine ce_then ?_
    refine cw_false rfl ?_
    refine cw_skip ?_
    refine ce_then ?_
    refine cw_seq ?_
    refine cw_region ?_
    refine wl_v (ov_loadAgg (vs := [.int .i64 (N), .slice A (es.length) (c)]) tI36 (holds_blk (List.Mem.head _)) rfl some_lit rfl rfl) rfl rfl rfl ?_
    refine wl_r (or_call (fv := []) (vs := [.agg #[.int .i64 (N), .slice A (es.length) (c)]]) (cs := []) en15 rfl rfl (call_x1 (fun w hw => toGraph_c w N A es.length c es ((holds_old oA) w hw) rfl lA (by first | assumption | omega | (simp; omega))))) rfl rfl (kt1p rfl (fun g_24 h_24 => ?_))
    refine wl_r (or_call (fv := []) (vs := [.agg #[.int .i64 (N), .slice (some ⟨g_24, 0, none⟩) (es.length) (es.length)]]) (cs := []) en29 rfl rfl (call_x3 (fun w hw => CodeOfS_c w N (some ⟨g_24, 0, none⟩) es.length es.length es ((holds_row (List.Mem.head _)) w hw) rfl (Nat.le_refl _) (by first | assumption | omega | (simp; omega)) (by first | assumption | omega | (simp; omega))))) rfl rfl (kt3p rfl (fun A2_25 k2_25 c2_25 h_25 => ?_))
    refine wl_v (ov_move rfl) rfl rfl rfl ?_
    refine wl_v (ov_extract rfl rfl) rfl rfl rfl ?_
    refine wl_v (ov_extract rfl rfl) rfl rfl rfl ?_
    refine wl_v (ov_extract rfl rfl) rfl rfl rfl ?_
    refine wl_v (ov_assign rfl) rfl rfl rfl ?_
    refine wl_v (ov_assign rfl) rfl rfl rfl ?_
    refine wl_v (ov_assign rfl) rfl rfl rfl ?_
    refine wl_nil ?_
    refine ce_then ?_
    refine cw_seq ?_
    refine cw_region ?_
    refine wl_v (ov_loadAgg (vs := [.int .i64 (N), .slice A (es.length) (c)]) tI36 (holds_blk (List.Mem.tail _ (List.Mem.tail _ (List.Mem.head _)))) rfl some_lit rfl rfl) rfl rfl rfl ?_
    refine wl_r (or_call (fv := []) (vs := [.agg #[.int .i64 (N), .slice A (es.length) (c)]]) (cs := []) en15 rfl rfl (call_x1 (fun w hw => toGraph_c w N A es.length c es ((holds_old oA) w hw) rfl lA (by first | assumption | omega | (simp; omega))))) rfl rfl (kt1p rfl (fun g_30 h_30 => ?_))
    refine wl_r (or_alloc tI25 rfl) rfl rfl (kt1 rfl (fun g7 => ?_))
    refine wl_r0 (or_store_blk (vs := [.int .i64 (N), .slice (some ⟨g_30, 0, none⟩) (es.length) (es.length)]) (cs' := [.int .i64 (N), .slice (some ⟨g_30, 0, none⟩) (es.length) (es.length)]) (.head) tI25 rfl rfl rfl rfl (Nat.le_of_ble_eq_true rfl) rfl) rfl rfl (kn0 ?_)
    refine wl_nil ?_
    refine ce_then ?_
    refine cw_seq ?_
    refine cw_region ?_
    refine wl_v (ov_loadAgg (vs := [.int .i64 (N), .slice (some ⟨g_30, 0, none⟩) (es.length) (es.length)]) tI25 (holds_blk (List.Mem.head _)) rfl some_lit rfl rfl) rfl rfl rfl ?_
    refine wl_r (or_call (fv := []) (vs := [.agg #[.int .i64 (N), .slice (some ⟨g_30, 0, none⟩) (es.length) (es.length)]]) (cs := []) en30 rfl rfl (call_x3 (fun w hw => CodeOfI_c w N (some ⟨g_30, 0, none⟩) es.length es.length es ((holds_row (List.Mem.tail _ (List.Mem.head _))) w hw) rfl (Nat.le_refl _) (by first | assumption | omega | (simp; omega)) (by first | assumption | omega | (simp; omega))))) rfl rfl (kt3p rfl (fun A2_33 k2_33 c2_33 h_33 => ?_))
    refine wl_v (ov_move rfl) rfl rfl rfl ?_
    refine wl_v (ov_extract rfl rfl) rfl rfl rfl ?_
    refine wl_v (ov_extract rfl rfl) rfl rfl rfl ?_
    refine wl_v (ov_extract rfl rfl) rfl rfl rfl ?_
    refine wl_v (ov_assign rfl) rfl rfl rfl ?_
    refine wl_v (ov_assign rfl) rfl rfl rfl ?_
    refine wl_v (ov_assign rfl) rfl rfl rfl ?_
    refine wl_nil ?_
    refine ce_then ?_
    refine cw_seq ?_
    refine cw_seq ?_
    refine cw_region ?_
    refine wl_v (ov_move rfl) rfl rfl rfl ?_
    refine wl_v (ov_move rfl) rfl rfl rfl ?_
    refine wl_if (ov_neqs rfl rfl) rfl rfl rfl (fun c39 => ?_) (fun c39 => ?_)
    ·
      first | (exfalso; omega) | exact absurd rfl c39 | exact absurd (by simp) c39 | (exfalso; simp at c39; omega) | exact absurd ⟨rfl, rfl⟩ c39 | (simp at c39)
    ·
      refine wl_v (ov_move rfl) rfl rfl rfl ?_
      refine wl_go rfl rfl ?_
      refine wl_v (ov_move rfl) rfl rfl rfl ?_
      refine wl_go rfl rfl ?_
      refine wl_v (ov_move rfl) rfl rfl rfl ?_
      refine wl_go rfl rfl ?_
      refine wl_r (or_call (fv := []) (vs := [.slice A2_33 ((codeC N es).2.1.length) (k2_33), .slice A2_25 ((codeC N es).2.1.length) (k2_25)]) (cs := []) en17 rfl rfl (call_v (fun w hw => eqIntS_c w A2_33 ((codeC N es).2.1.length) k2_33 ((codeC N es).2.1) A2_25 ((codeC N es).2.1.length) k2_25 ((codeC N es).2.1) ((holds_row (List.Mem.head _)) w hw) rfl h_33 ((holds_row (List.Mem.tail _ (List.Mem.tail _ (List.Mem.tail _ (List.Mem.head _))))) w hw) rfl h_25 (by first | assumption | omega | (simp; omega))))) rfl rfl (kt_if rfl (fun c43 => ?_) (fun c43 => ?_))
      ·
        refine wl_go rfl rfl ?_
        refine wl_v (ov_not rfl) rfl rfl rfl ?_
        refine wl_v (ov_pick_f rfl rfl) rfl rfl rfl ?_
        refine wl_v (ov_move rfl) rfl rfl rfl ?_
        refine wl_go rfl rfl ?_
        refine wl_v (ov_move rfl) rfl rfl rfl ?_
        refine wl_go rfl rfl ?_
        refine wl_v (ov_move rfl) rfl rfl rfl ?_
        refine wl_go rfl rfl ?_
        refine wl_if (OpV.dec (ov_neqb uI4 rfl rfl)) rfl rfl rfl (fun c49 => ?_) (fun c49 => ?_)
        ·
          first | (exfalso; omega) | exact absurd rfl c49 | exact absurd (by simp) c49 | (exfalso; simp at c49; omega) | exact absurd ⟨rfl, rfl⟩ c49 | (simp at c49)
        ·
          refine wl_v (ov_pick_f rfl rfl) rfl rfl rfl ?_
          refine wl_nil ?_
          refine ce_then ?_
          refine cw_false rfl ?_
          refine cw_skip ?_
          refine ce_then ?_
          refine cw_seq ?_
          refine cw_seq ?_
          refine cw_draw mixO [] (.cons (.head) (.cons (.head) (.cons (.head) (.cons (.head) (.cons (.head) (.cons (.head) (.nil))))))) rfl ?_
          refine wg_take (i := 0) rfl (ov_loadAgg (vs := [.int .i64 (N), .slice (some ⟨g_30, 0, none⟩) (es.length) (es.length)]) tI25 (holds_blk (List.Mem.tail _ (List.Mem.head _))) rfl some_lit rfl rfl) rfl rfl rfl (by kernel_rfl) (by kernel_rfl) (by kernel_rfl) (by kernel_rfl) ?_
          refine wg_take (i := 1) rfl (ov_loadAgg (vs := [.int .i64 (N), .slice A (es.length) (c)]) tI36 (holds_blk (List.Mem.tail _ (List.Mem.tail _ (List.Mem.tail _ (List.Mem.tail _ (List.Mem.tail _ (List.Mem.head _))))))) rfl some_lit rfl rfl) rfl rfl rfl (by kernel_rfl) (by kernel_rfl) (by kernel_rfl) (by kernel_rfl) ?_
          refine wg_one (i := 2) (by kernel_rfl) ?_
          refine go_r rfl rfl rfl rfl (or_call (fv := []) (vs := [.agg #[.int .i64 (N), .slice A (es.length) (c)]]) (cs := []) en15 rfl rfl (call_x1 (fun w hw => toGraph_c w N A es.length c es ((holds_old oA) w hw) rfl lA (by first | assumption | omega | (simp; omega))))) (kt1p rfl (fun g_53 h_53 => ?_))
          refine gk (.cons (.tail .head) (.cons (.tail .head) (.cons (.tail .head) (.cons (.tail .head) (.cons (.tail .head) (.cons (.tail .head) (.nil))))))) ?_
          refine wg_one (i := 3) (by kernel_rfl) ?_
          refine go_r rfl rfl rfl rfl (or_call (fv := []) (vs := [.agg #[.int .i64 (N), .slice (some ⟨g_30, 0, none⟩) (es.length) (es.length)], .agg #[.int .i64 (N), .slice (some ⟨g_53, 0, none⟩) (es.length) (es.length)]]) (cs := []) en18 rfl rfl (call_v (fun w hw => eqGraph_c w N (some ⟨g_30, 0, none⟩) es.length es.length es N (some ⟨g_53, 0, none⟩) es.length es.length es ((holds_row (List.Mem.tail _ (List.Mem.tail _ (List.Mem.tail _ (List.Mem.head _))))) w hw) rfl (Nat.le_refl _) ((holds_row (List.Mem.head _)) w hw) rfl (Nat.le_refl _) (by first | assumption | omega | (simp; omega))))) (kt_if rfl (fun c54 => ?_) (fun c54 => ?_))
          ·
            refine gk (.cons (.tail .head) (.cons (.tail .head) (.cons (.tail .head) (.cons (.tail .head) (.cons (.tail .head) (.cons (.tail .head) (.nil))))))) ?_
            refine wg_takep (i := 4) rfl (ov_not rfl) rfl rfl rfl (by kernel_rfl) (by kernel_rfl) (by kernel_rfl) rfl ?_
            refine wg_done (by kernel_rfl) ?_
            refine ce_then ?_
            refine cw_false rfl ?_
            refine cw_skip ?_
            refine ce_then ?_
            refine cw_seq ?_
            refine cw_region ?_
            refine wl_v (ov_assign rfl) rfl rfl rfl ?_
            refine wl_nil ?_
            refine ce_then ?_
            refine cw_seq ?_
            refine cw_region ?_
            refine wl_v (ov_loadAgg (vs := [.int .i64 (N), .slice (some ⟨g_30, 0, none⟩) (es.length) (es.length)]) tI25 (holds_blk (List.Mem.tail _ (List.Mem.tail _ (List.Mem.head _)))) rfl some_lit rfl rfl) rfl rfl rfl ?_
            refine wl_v (ov_move rfl) rfl rfl rfl ?_
            refine wl_r (or_call (fv := []) (vs := [.agg #[.int .i64 (N), .slice (some ⟨g_30, 0, none⟩) (es.length) (es.length)], .int .i64 (1)]) (cs := []) en19 rfl rfl (call_m (.tail (.tail (.tail .head))) (fun w hw => markGraph_c w _ _ _ (some ⟨g_30, 0, none⟩) es.length es.length es.length es 1 N rfl (Nat.le_refl _) (by first | assumption | omega | (simp; omega)) (by first | assumption | omega | (simp; omega)) hw))) rfl rfl (kt0 rfl ?_)
            refine wl_v (ov_assign rfl) rfl rfl rfl ?_
            refine wl_nil ?_
            refine ce_then ?_
            refine cw_seq ?_
            refine cw_seq ?_
            refine cw_region ?_
            refine wl_v (ov_move rfl) rfl rfl rfl ?_
            refine wl_if (ov_lss rfl rfl) rfl rfl rfl (fun c60 => ?_) (fun c60 => ?_)
            ·
              first | (exfalso; omega) | exact absurd rfl c60 | exact absurd (by simp) c60 | (exfalso; simp at c60; omega) | exact absurd ⟨rfl, rfl⟩ c60 | (simp at c60)
            ·
              refine wl_v (ov_move rfl) rfl rfl rfl ?_
              refine wl_go rfl rfl ?_
              refine wl_v (ov_move rfl) rfl rfl rfl ?_
              refine wl_go rfl rfl ?_
              refine wl_v (ov_move rfl) rfl rfl rfl ?_
              refine wl_go rfl rfl ?_
              refine wl_if (ov_neqs rfl rfl) rfl rfl rfl (fun c64 => ?_) (fun c64 => ?_)
              ·
                first | (exfalso; omega) | exact absurd rfl c64 | exact absurd (by simp) c64 | (exfalso; simp at c64; omega) | exact absurd ⟨rfl, rfl⟩ c64 | (simp at c64)
              ·
                refine wl_v (ov_pick_f rfl rfl) rfl rfl rfl ?_
                refine wl_v (ov_move rfl) rfl rfl rfl ?_
                refine wl_go rfl rfl ?_
                refine wl_v (ov_move rfl) rfl rfl rfl ?_
                refine wl_go rfl rfl ?_
                refine wl_v (ov_move rfl) rfl rfl rfl ?_
                refine wl_go rfl rfl ?_
                refine wl_r (or_call (fv := []) (vs := [.slice A2_33 ((codeC N es).2.1.length) (k2_33), .slice A2_25 ((codeC N es).2.1.length) (k2_25)]) (cs := []) en17 rfl rfl (call_v (fun w hw => eqIntS_c w A2_33 ((codeC N es).2.1.length) k2_33 ((codeC N es).2.1) A2_25 ((codeC N es).2.1.length) k2_25 ((codeC N es).2.1) ((holds_row (List.Mem.tail _ (List.Mem.tail _ (List.Mem.head _)))) w hw) rfl h_33 ((holds_row (List.Mem.tail _ (List.Mem.tail _ (List.Mem.tail _ (List.Mem.tail _ (List.Mem.head _)))))) w hw) rfl h_25 (by first | assumption | omega | (simp; omega))))) rfl rfl (kt_if rfl (fun c69 => ?_) (fun c69 => ?_))
                ·
                  refine wl_go rfl rfl ?_
                  refine wl_v (ov_not rfl) rfl rfl rfl ?_
                  refine wl_v (ov_pick_f rfl rfl) rfl rfl rfl ?_
                  refine wl_v (ov_move rfl) rfl rfl rfl ?_
                  refine wl_go rfl rfl ?_
                  refine wl_v (ov_move rfl) rfl rfl rfl ?_
                  refine wl_go rfl rfl ?_
                  refine wl_v (ov_move rfl) rfl rfl rfl ?_
                  refine wl_go rfl rfl ?_
                  refine wl_if (OpV.dec (ov_neqb uI4 rfl rfl)) rfl rfl rfl (fun c75 => ?_) (fun c75 => ?_)
                  ·
                    first | (exfalso; omega) | exact absurd rfl c75 | exact absurd (by simp) c75 | (exfalso; simp at c75; omega) | exact absurd ⟨rfl, rfl⟩ c75 | (simp at c75)
                  ·
                    refine wl_v (ov_pick_f rfl rfl) rfl rfl rfl ?_
                    refine wl_nil ?_
                    refine ce_then ?_
                    refine cw_false rfl ?_
                    refine cw_skip ?_
                    refine ce_then ?_
                    refine cw_seq ?_
                    refine cw_region ?_
                    refine wl_v (ov_assign rfl) rfl rfl rfl ?_
                    refine wl_nil ?_
                    refine ce_then ?_
                    refine cw_seq ?_
                    refine cw_region ?_
                    refine wl_v (ov_move rfl) rfl rfl rfl ?_
                    refine wl_v (ov_move rfl) rfl rfl rfl ?_
                    refine wl_r (or_call (fv := []) (vs := [.slice A2_33 ((codeC N es).2.1.length) (k2_33), .int .i64 (1)]) (cs := []) en20 rfl rfl (call_m (.tail (.tail .head)) (fun w hw => markIntS_c w _ _ _ A2_33 ((codeC N es).2.1.length) c2_33 k2_33 ((codeC N es).2.1) 1 rfl h_33 (by first | assumption | omega | (simp; omega)) (by first | assumption | omega | (simp; omega)) hw))) rfl rfl (kt0 rfl ?_)
                    refine wl_v (ov_assign rfl) rfl rfl rfl ?_
                    refine wl_nil ?_
                    refine ce_then ?_
                    refine cw_seq ?_
                    refine cw_region ?_
                    refine wl_v (ov_assign rfl) rfl rfl rfl ?_
                    refine wl_nil ?_
                    refine ce_then ?_
                    refine cw_seq ?_
                    refine cw_region ?_
                    refine wl_v (ov_move rfl) rfl rfl rfl ?_
                    refine wl_v (ov_move rfl) rfl rfl rfl ?_
                    refine wl_r (or_call (fv := []) (vs := [.slice A2_33 ((codeC N es).2.1.length) (k2_33), .int .i64 (1)]) (cs := []) en21 rfl rfl (call_v (fun w hw => heldIntS_c w A2_33 ((codeC N es).2.1.length) k2_33 (marks 1 ((codeC N es).2.1.length)) 1 ((holds_row (List.Mem.head _)) w hw) (marks_length _ _) h_33 (by rw [marks_length]; omega) (by first | assumption | omega | (simp; omega))))) rfl rfl (kt0 rfl ?_)
                    refine wl_v (ov_assign rfl) rfl rfl rfl ?_
                    refine wl_nil ?_
                    refine ce_then ?_
                    refine cw_seq ?_
                    refine cw_seq ?_
                    refine cw_region ?_
                    refine wl_v (ov_move rfl) rfl rfl rfl ?_
                    refine wl_if (ov_lss rfl rfl) rfl rfl rfl (fun c84 => ?_) (fun c84 => ?_)
                    ·
                      first | (exfalso; omega) | exact absurd rfl c84 | exact absurd (by simp) c84 | (exfalso; simp at c84; omega) | exact absurd ⟨rfl, rfl⟩ c84 | (simp at c84)
                    ·
                      refine wl_nil ?_
                      refine ce_then ?_
                      refine cw_false rfl ?_
                      refine cw_skip ?_
                      refine ce_then ?_
                      refine cw_seq ?_
                      refine cw_seq ?_
                      refine cw_region ?_
                      refine wl_v (ov_move rfl) rfl rfl rfl ?_
                      refine wl_v (ov_move rfl) rfl rfl rfl ?_
                      refine wl_if (ov_neq rfl rfl) rfl rfl rfl (fun c87 => ?_) (fun c87 => ?_)
                      ·
                        first | (exfalso; omega) | exact absurd rfl c87 | exact absurd (by simp) c87 | (exfalso; simp at c87; omega) | exact absurd ⟨rfl, rfl⟩ c87 | (simp at c87)
                      ·
                        refine wl_nil ?_
                        refine ce_then ?_
                        refine cw_false rfl ?_
                        refine cw_skip ?_
                        refine ce_then ?_
                        refine cw_seq ?_
                        refine cw_region ?_
                        refine wl_v (ov_loadAgg (vs := [.int .i64 (N), .slice A (es.length) (c)]) tI36 (holds_blk (List.Mem.tail _ (List.Mem.tail _ (List.Mem.tail _ (List.Mem.tail _ (List.Mem.tail _ (List.Mem.tail _ (List.Mem.head _)))))))) rfl some_lit rfl rfl) rfl rfl rfl ?_
                        refine wl_r (or_call (fv := []) (vs := [.agg #[.int .i64 (N), .slice A (es.length) (c)]]) (cs := []) en15 rfl rfl (call_x1 (fun w hw => toGraph_c w N A es.length c es ((holds_old oA) w hw) rfl lA (by first | assumption | omega | (simp; omega))))) rfl rfl (kt1p rfl (fun g_90 h_90 => ?_))
                        refine wl_r (or_call (fv := []) (vs := [.agg #[.int .i64 (N), .slice (some ⟨g_90, 0, none⟩) (es.length) (es.length)]]) (cs := []) en30 rfl rfl (call_x3 (fun w hw => CodeOfI_c w N (some ⟨g_90, 0, none⟩) es.length es.length es ((holds_row (List.Mem.head _)) w hw) rfl (Nat.le_refl _) (by first | assumption | omega | (simp; omega)) (by first | assumption | omega | (simp; omega))))) rfl rfl (kt3p rfl (fun A2_91 k2_91 c2_91 h_91 => ?_))
                        refine wl_v (ov_move rfl) rfl rfl rfl ?_
                        refine wl_v (ov_extract rfl rfl) rfl rfl rfl ?_
                        refine wl_v (ov_extract rfl rfl) rfl rfl rfl ?_
                        refine wl_v (ov_extract rfl rfl) rfl rfl rfl ?_
                        refine wl_v (ov_assign rfl) rfl rfl rfl ?_
                        refine wl_v (ov_assign rfl) rfl rfl rfl ?_
                        refine wl_v (ov_assign rfl) rfl rfl rfl ?_
                        refine wl_nil ?_
                        refine ce_then ?_
                        refine cw_seq ?_
                        refine cw_seq ?_
                        refine cw_region ?_
                        refine wl_v (ov_move rfl) rfl rfl rfl ?_
                        refine wl_v (ov_move rfl) rfl rfl rfl ?_
                        refine wl_if (ov_neqs rfl rfl) rfl rfl rfl (fun c97 => ?_) (fun c97 => ?_)
                        ·
                          first | (exfalso; omega) | exact absurd rfl c97 | exact absurd (by simp) c97 | (exfalso; simp at c97; omega) | exact absurd ⟨rfl, rfl⟩ c97 | (simp at c97)
                        ·
                          refine wl_v (ov_move rfl) rfl rfl rfl ?_
                          refine wl_go rfl rfl ?_
                          refine wl_v (ov_move rfl) rfl rfl rfl ?_
                          refine wl_go rfl rfl ?_
                          refine wl_v (ov_move rfl) rfl rfl rfl ?_
                          refine wl_go rfl rfl ?_
                          refine wl_r (or_call (fv := []) (vs := [.slice A2_91 ((codeC N es).2.1.length) (k2_91), .slice A2_25 ((codeC N es).2.1.length) (k2_25)]) (cs := []) en17 rfl rfl (call_v (fun w hw => eqIntS_c w A2_91 ((codeC N es).2.1.length) k2_91 ((codeC N es).2.1) A2_25 ((codeC N es).2.1.length) k2_25 ((codeC N es).2.1) ((holds_row (List.Mem.head _)) w hw) rfl h_91 ((holds_row (List.Mem.tail _ (List.Mem.tail _ (List.Mem.tail _ (List.Mem.tail _ (List.Mem.tail _ (List.Mem.tail _ (List.Mem.head _)))))))) w hw) rfl h_25 (by first | assumption | omega | (simp; omega))))) rfl rfl (kt_if rfl (fun c101 => ?_) (fun c101 => ?_))
                          ·
                            refine wl_go rfl rfl ?_
                            refine wl_v (ov_not rfl) rfl rfl rfl ?_
                            refine wl_v (ov_pick_f rfl rfl) rfl rfl rfl ?_
                            refine wl_v (ov_move rfl) rfl rfl rfl ?_
                            refine wl_go rfl rfl ?_
                            refine wl_v (ov_move rfl) rfl rfl rfl ?_
                            refine wl_go rfl rfl ?_
                            refine wl_v (ov_move rfl) rfl rfl rfl ?_
                            refine wl_go rfl rfl ?_
                            refine wl_if (OpV.dec (ov_neqb uI4 rfl rfl)) rfl rfl rfl (fun c107 => ?_) (fun c107 => ?_)
                            ·
                              first | (exfalso; omega) | exact absurd rfl c107 | exact absurd (by simp) c107 | (exfalso; simp at c107; omega) | exact absurd ⟨rfl, rfl⟩ c107 | (simp at c107)
                            ·
                              refine wl_v (ov_pick_f rfl rfl) rfl rfl rfl ?_
                              refine wl_nil ?_
                              refine ce_then ?_
                              refine cw_false rfl ?_
                              refine cw_skip ?_
                              refine ce_then ?_
                              refine cw_seq ?_
                              refine cw_region ?_
                              refine wl_v (ov_assign rfl) rfl rfl rfl ?_
                              refine wl_nil ?_
                              refine ce_then ?_
                              refine cw_seq ?_
                              refine cw_region ?_
                              refine wl_v (ov_move rfl) rfl rfl rfl ?_
                              refine wl_v (ov_move rfl) rfl rfl rfl ?_
                              refine wl_r (or_call (fv := []) (vs := [.slice A2_33 ((codeC N es).2.1.length) (k2_33), .int .i64 (1)]) (cs := []) en21 rfl rfl (call_v (fun w hw => heldIntS_c w A2_33 ((codeC N es).2.1.length) k2_33 (marks 1 ((codeC N es).2.1.length)) 1 ((holds_row (List.Mem.tail _ (List.Mem.tail _ (List.Mem.head _)))) w hw) (marks_length _ _) h_33 (by rw [marks_length]; omega) (by first | assumption | omega | (simp; omega))))) rfl rfl (kt0 rfl ?_)
                              refine wl_v (ov_assign rfl) rfl rfl rfl ?_
                              refine wl_nil ?_
                              refine ce_then ?_
                              refine cw_seq ?_
                              refine cw_seq ?_
                              refine cw_region ?_
                              refine wl_v (ov_move rfl) rfl rfl rfl ?_
                              refine wl_if (ov_lss rfl rfl) rfl rfl rfl (fun c113 => ?_) (fun c113 => ?_)
                              ·
                                first | (exfalso; omega) | exact absurd rfl c113 | exact absurd (by simp) c113 | (exfalso; simp at c113; omega) | exact absurd ⟨rfl, rfl⟩ c113 | (simp at c113)
                              ·
                                refine wl_nil ?_
                                refine ce_then ?_
                                refine cw_false rfl ?_
                                refine cw_skip ?_
                                refine ce_then ?_
                                refine cw_seq ?_
                                refine cw_seq ?_
                                refine cw_region ?_
                                refine wl_v (ov_move rfl) rfl rfl rfl ?_
                                refine wl_v (ov_move rfl) rfl rfl rfl ?_
                                refine wl_if (ov_neq rfl rfl) rfl rfl rfl (fun c116 => ?_) (fun c116 => ?_)
                                ·
                                  first | (exfalso; omega) | exact absurd rfl c116 | exact absurd (by simp) c116 | (exfalso; simp at c116; omega) | exact absurd ⟨rfl, rfl⟩ c116 | (simp at c116)
                                ·
                                  refine wl_nil ?_
                                  refine ce_then ?_
                                  refine cw_false rfl ?_
                                  refine cw_skip ?_
                                  refine ce_then ?_
                                  refine cw_seq ?_
                                  refine cw_region ?_
                                  refine wl_v (ov_assign rfl) rfl rfl rfl ?_
                                  refine wl_nil ?_
                                  refine ce_then ?_
                                  refine cw_ret ?_
                                  refine ce_results (v := .bool true) (res1 rfl (rv_t rfl)) (fun w' hw => ?_)
                                  exact ⟨rfl, (Keep.nil.ss hw).to_new⟩
                          ·
                            first | (exfalso; omega) | exact absurd rfl c101 | exact absurd (by simp) c101 | (exfalso; simp at c101; omega) | exact absurd ⟨rfl, rfl⟩ c101 | (simp at c101)
                ·
                  first | (exfalso; omega) | exact absurd rfl c69 | exact absurd (by simp) c69 | (exfalso; simp at c69; omega) | exact absurd ⟨rfl, rfl⟩ c69 | (simp at c69)
          ·
            first | (exfalso; omega) | exact absurd rfl c54 | exact absurd (by simp) c54 | (exfalso; simp at c54; omega) | exact absurd ⟨rfl, rfl⟩ c54 | (simp at c54)
      ·
        first | (exfalso; omega) | exact absurd rfl c43 | exact absurd (by simp) c43 | (exfalso; simp at c43; omega) | exact absurd ⟨rfl, rfl⟩ c43 | (simp at c43)
end Go.Proofs.Ytkkllkkjdbpjpaa.LFnExactCodeOf
