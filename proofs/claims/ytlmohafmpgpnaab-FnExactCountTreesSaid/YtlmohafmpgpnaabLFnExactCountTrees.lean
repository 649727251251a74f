/- Walks of functions of the given program: each returns what its Lean function says and leaves the memory that was there as it was. Conditions: those of each theorem. -/
import Derived.Test.YtlmohafmpgpnaabSy
import Derived.Test.YtlmohafmpgpnaabProg
import Derived.Test.YtlmohafmpgpnaabPl
import Derived.Test.YtlmohafmpgpnaabPo
import Derived.Test.YtlmohafmpgpnaabPd
import Derived.Test.YtlmohafmpgpnaabPe
import Derived.Test.YtlmohafmpgpnaabSo
import Derived.Test.YtlmohafmpgpnaabSh
import Derived.Test.YtlmohafmpgpnaabT
import Derived.Test.YtlmohafmpgpnaabW2
import Derived.Test.YtlmohafmpgpnaabW10
import Derived.KernelRfl
namespace Go.Proofs.Ytlmohafmpgpnaab.LFnExactCountTrees
open Go.Sx Go.RowKit Go.Proofs.Ytlmohafmpgpnaab.T Go.Proofs.Ytlmohafmpgpnaab.W2 Go.Proofs.Ytlmohafmpgpnaab.W10
open Go.Plain
set_option linter.unusedVariables false
set_option maxRecDepth 100000 in
theorem FnExactCountTrees_c (w : World) (A : Option Addr) (n : Nat) (c : Nat) (xs : List (Int)) (hA : At w A (cells fI xs)) (eA : xs.length = n) (lA : n ≤ c) : Calls Try.prog 6 #[.slice A (n) (c)] w (Ret fun rv w' => rv = .bool true ∧ New w w' []) := by
  have oA := hA.atB
  subst eA
  refine fn_enter (args := [.slice A (xs.length) (c)]) Try.func6 rfl Try.ntmps6 rfl (SS.start w) ?_
  refine cw_seq ?_
  refine cw_region ?_
  refine wl_v (ov_assign rfl) rfl rfl rfl ?_
  refine wl_nil ?_
  refine ce_then ?_
  refine cw_seq ?_
  refine cw_seq ?_
  refine cw_region ?_
  refine wl_v (ov_move rfl) rfl rfl rfl ?_
  refine wl_v (ov_len (sliceI_spec sI22) rfl) rfl rfl rfl ?_
  refine wl_if (ov_gtr rfl rfl) rfl rfl rfl (fun c8 => ?_) (fun c8 => ?_)
  ·
    refine wl_nil ?_
    refine ce_then ?_
    refine cw_true rfl ?_
    refine cw_seq ?_
    refine cw_region ?_
    refine wl_v (ov_assign rfl) rfl rfl rfl ?_
    refine wl_nil ?_
    refine ce_then ?_
    refine cw_ret ?_
    refine ce_then_ret ?_
    refine ce_results (v := .bool true) (res1 rfl (rv_t rfl)) (fun w' hw => ?_)
    exact ⟨rfl, (Keep.nil.ss hw).to_new⟩
  ·
    refine wl_nil ?_
    refine ce_then ?_
    refine cw_false rfl ?_
    refine cw_skip ?_
    refine ce_then ?_
    refine cw_seq ?_
    refine cw_region ?_
    refine wl_v (ov_move rfl) rfl rfl rfl ?_
    refine wl_r (or_call (fv := []) (vs := [.slice A (xs.length) (c)]) (cs := []) en11 rfl rfl (call_x1 (fun w hw => toIntS_c w A xs.length c xs ((holds_old oA) w hw) rfl lA (by first | assumption | omega | (simp; omega))))) rfl rfl (kt1p rfl (fun g_10 h_10 => ?_))
    refine wl_r (or_call (fv := []) (vs := [.slice (some ⟨g_10, 0, none⟩) (xs.length) (xs.length)]) (cs := []) en18 rfl rfl (call_v (fun w hw => CountTreesS_c w (some ⟨g_10, 0, none⟩) xs.length xs.length xs ((holds_row (List.Mem.head _)) w hw) rfl (Nat.le_refl _) (by first | assumption | omega | (simp; omega))))) rfl rfl (kt0 rfl ?_)
    refine wl_v (ov_assign rfl) rfl rfl rfl ?_
    refine wl_nil ?_
    refine ce_then ?_
    refine cw_seq ?_
    refine cw_region ?_
    refine wl_v (ov_move rfl) rfl rfl rfl ?_
    refine wl_r (or_call (fv := []) (vs := [.slice A (xs.length) (c)]) (cs := []) en11 rfl rfl (call_x1 (fun w hw => toIntS_c w A xs.length c xs ((holds_old oA) w hw) rfl lA (by first | assumption | omega | (simp; omega))))) rfl rfl (kt1p rfl (fun g_13 h_13 => ?_))
    refine wl_v (ov_assign rfl) rfl rfl rfl ?_
    refine wl_nil ?_
    refine ce_then ?_
    refine cw_seq ?_
    refine cw_region ?_
    refine wl_v (ov_move rfl) rfl rfl rfl ?_
    refine wl_r (or_call (fv := []) (vs := [.slice (some ⟨g_13, 0, none⟩) (xs.length) (xs.length)]) (cs := []) en19 rfl rfl (call_v (fun w hw => CountTreesI_c w (some ⟨g_13, 0, none⟩) xs.length xs.length xs ((holds_row (List.Mem.head _)) w hw) rfl (Nat.le_refl _) (by first | assumption | omega | (simp; omega))))) rfl rfl (kt0 rfl ?_)
    refine wl_v (ov_assign rfl) rfl rfl rfl ?_
    refine wl_nil ?_
    refine ce_then ?_
    refine cw_seq ?_
    refine cw_seq ?_
    refine cw_region ?_
    refine wl_v (ov_move rfl) rfl rfl rfl ?_
    refine wl_v (ov_move rfl) rfl rfl rfl ?_
    refine wl_if (ov_neq rfl rfl) rfl rfl rfl (fun c18 => ?_) (fun c18 => ?_)
    ·
      first | (exfalso; omega) | exact absurd rfl c18 | exact absurd (by simp) c18 | (exfalso; simp at c18; omega) | exact absurd ⟨rfl, rfl⟩ c18
    ·
      refine wl_nil ?_
      refine ce_then ?_
      refine cw_false rfl ?_
      refine cw_skip ?_
      refine ce_then ?_
      refine cw_seq ?_
      refine cw_seq ?_
      refine cw_region ?_
      refine wl_v (ov_move rfl) rfl rfl rfl ?_
      refine wl_v (ov_move rfl) rfl rfl rfl ?_
      refine wl_r (or_call (fv := []) (vs := [.slice A (xs.length) (c)]) (cs := []) en11 rfl rfl (call_x1 (fun w hw => toIntS_c w A xs.length c xs ((holds_old oA) w hw) rfl lA (by first | assumption | omega | (simp; omega))))) rfl rfl (kt1p rfl (fun g_21 h_21 => ?_))
      refine wl_r (or_call (fv := []) (vs := [.slice (some ⟨g_13, 0, none⟩) (xs.length) (xs.length), .slice (some ⟨g_21, 0, none⟩) (xs.length) (xs.length)]) (cs := []) en13 rfl rfl (call_v (fun w hw => eqIntS_c w (some ⟨g_13, 0, none⟩) xs.length xs.length xs (some ⟨g_21, 0, none⟩) xs.length xs.length xs ((holds_row (List.Mem.tail _ (List.Mem.head _))) w hw) rfl (Nat.le_refl _) ((holds_row (List.Mem.head _)) w hw) rfl (Nat.le_refl _) (by first | assumption | omega | (simp; omega))))) rfl rfl (kt_if rfl (fun c22 => ?_) (fun c22 => ?_))
      ·
        refine wl_v (ov_not rfl) rfl rfl rfl ?_
        refine wl_nil ?_
        refine ce_then ?_
        refine cw_false rfl ?_
        refine cw_skip ?_
        refine ce_then ?_
        refine cw_seq ?_
        refine cw_region ?_
        refine wl_v (ov_assign rfl) rfl rfl rfl ?_
        refine wl_nil ?_
        refine ce_then ?_
        refine cw_ret ?_
        refine ce_results (v := .bool true) (res1 rfl (rv_t rfl)) (fun w' hw => ?_)
        exact ⟨rfl, (Keep.nil.ss hw).to_new⟩
      ·
        first | (exfalso; omega) | exact absurd rfl c22 | exact absurd (by simp) c22 | (exfalso; simp at c22; omega) | exact absurd ⟨rfl, rfl⟩ c22
end Go.Proofs.Ytlmohafmpgpnaab.LFnExactCountTrees
