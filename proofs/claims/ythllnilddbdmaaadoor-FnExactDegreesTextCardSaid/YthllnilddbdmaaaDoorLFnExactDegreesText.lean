/- Walks of functions of the given program: each returns what its Lean function says and leaves the memory that was there as it was. Conditions: those of each theorem. -/
import Derived.Test.YthllnilddbdmaaaDoorSm
import Derived.Test.YthllnilddbdmaaaDoorProg
import Derived.Test.YthllnilddbdmaaaDoorPl
import Derived.Test.YthllnilddbdmaaaDoorPo
import Derived.Test.YthllnilddbdmaaaDoorPd
import Derived.Test.YthllnilddbdmaaaDoorPe
import Derived.Test.YthllnilddbdmaaaDoorPh
import Derived.Test.YthllnilddbdmaaaDoorPm
import Derived.Test.YthllnilddbdmaaaDoorPc
import Derived.Test.YthllnilddbdmaaaDoorPs
import Derived.Test.YthllnilddbdmaaaDoorPt
import Derived.Test.YthllnilddbdmaaaDoorPu
import Derived.Test.YthllnilddbdmaaaDoorPv
import Derived.Test.YthllnilddbdmaaaDoorPw
import Derived.Test.YthllnilddbdmaaaDoorPx
import Derived.Test.YthllnilddbdmaaaDoorPy
import Derived.Test.YthllnilddbdmaaaDoorPz
import Derived.Test.YthllnilddbdmaaaDoorPr
import Derived.Test.YthllnilddbdmaaaDoorPa
import Derived.Test.YthllnilddbdmaaaDoorPn
import Derived.Test.YthllnilddbdmaaaDoorPj
import Derived.Test.YthllnilddbdmaaaDoorPq
import Derived.Test.YthllnilddbdmaaaDoorSs
import Derived.Test.YthllnilddbdmaaaDoorPk
import Derived.Test.YthllnilddbdmaaaDoorSb
import Derived.Test.YthllnilddbdmaaaDoorT
import Derived.Test.YthllnilddbdmaaaDoorW2
import Derived.Test.YthllnilddbdmaaaDoorW51
import Derived.KernelRfl
namespace Go.Proofs.YthllnilddbdmaaaDoor.LFnExactDegreesText
open Go.Sx Go.RowKit Go.Proofs.YthllnilddbdmaaaDoor.T Go.Proofs.YthllnilddbdmaaaDoor.W2 Go.Proofs.YthllnilddbdmaaaDoor.W51
open Go.Plain
set_option linter.unusedVariables false
set_option maxRecDepth 100000 in
theorem FnExactDegreesText_c (w : World) (A : Option Addr) (n : Nat) (c : Nat) (xs : List (Int)) (hA : At w A (cells fI xs)) (eA : xs.length = n) (lA : n ≤ c) : Calls Tryd.prog 4 #[.slice A (n) (c)] w (Ret fun rv w' => rv = .bool true ∧ New w w' []) := by
  have oA := hA.atB
  subst eA
  have hll := textV_len xs
  refine fn_enter (args := [.slice A (xs.length) (c)]) Tryd.func4 rfl Tryd.ntmps4 rfl (SS.start w) ?_
  refine cw_seq ?_
  refine cw_region ?_
  refine wl_v (ov_assign rfl) rfl rfl rfl ?_
  refine wl_nil ?_
  refine ce_then ?_
  refine cw_seq ?_
  refine cw_seq ?_
  refine cw_region ?_
  refine wl_v (ov_move rfl) rfl rfl rfl ?_
  refine wl_v (ov_len (sliceI_spec sI33) rfl) rfl rfl rfl ?_
  refine wl_if (ov_gtr rfl rfl) rfl rfl rfl (fun c8 => ?_) (fun c8 => ?_)
  ·
    refine wl_nil ?_
    refine ce_then ?_
    refine cw_true rfl ?_
    refine cw_seq ?_
    refine cw_region ?_
    refine wl_v (ov_assign rfl) rfl rfl rfl ?_
    refine wl_nil ?_
    refine ce_then ?_
    refine cw_ret ?_
    refine ce_then_ret ?_
    refine ce_results (v := .bool true) (res1 rfl (rv_t rfl)) (fun w' hw => ?_)
    exact ⟨rfl, (Keep.nil.ss hw).to_new⟩
  ·
    refine wl_nil ?_
    refine ce_then ?_
    refine cw_false rfl ?_
    refine cw_skip ?_
    refine ce_then ?_
    refine cw_seq ?_
    refine cw_region ?_
    refine wl_v (ov_move rfl) rfl rfl rfl ?_
    refine wl_r (or_call (fv := []) (vs := [.slice A (xs.length) (c)]) (cs := []) en13 rfl rfl (call_x1 (fun w hw => toIntS_c w A xs.length c xs ((holds_old oA) w hw) rfl lA (by first | assumption | omega | (simp; omega))))) rfl rfl (kt1p rfl (fun g_10 h_10 => ?_))
    refine wl_r (or_call (fv := []) (vs := [.slice (some ⟨g_10, 0, none⟩) (xs.length) (xs.length)]) (cs := []) en12 rfl rfl (call_v (fun w hw => DegreesTextS_c w (some ⟨g_10, 0, none⟩) xs.length xs.length xs ((holds_row (List.Mem.head _)) w hw) rfl (Nat.le_refl _) (by first | assumption | omega | (simp; omega))))) rfl rfl (kt0 rfl ?_)
    refine wl_v (ov_assign rfl) rfl rfl rfl ?_
    refine wl_nil ?_
    refine ce_then ?_
    refine cw_seq ?_
    refine cw_region ?_
    refine wl_v (ov_move rfl) rfl rfl rfl ?_
    refine wl_r (or_call (fv := []) (vs := [.slice A (xs.length) (c)]) (cs := []) en13 rfl rfl (call_x1 (fun w hw => toIntS_c w A xs.length c xs ((holds_old oA) w hw) rfl lA (by first | assumption | omega | (simp; omega))))) rfl rfl (kt1p rfl (fun g_13 h_13 => ?_))
    refine wl_v (ov_assign rfl) rfl rfl rfl ?_
    refine wl_nil ?_
    refine ce_then ?_
    refine cw_seq ?_
    refine cw_region ?_
    refine wl_v (ov_move rfl) rfl rfl rfl ?_
    refine wl_r (or_call (fv := []) (vs := [.slice (some ⟨g_13, 0, none⟩) (xs.length) (xs.length)]) (cs := []) en14 rfl rfl (call_v (fun w hw => DegreesTextI_c w (some ⟨g_13, 0, none⟩) xs.length xs.length xs ((holds_row (List.Mem.head _)) w hw) rfl (Nat.le_refl _) (by first | assumption | omega | (simp; omega))))) rfl rfl (kt0 rfl ?_)
    refine wl_v (ov_assign rfl) rfl rfl rfl ?_
    refine wl_nil ?_
    refine ce_then ?_
    refine cw_seq ?_
    refine cw_seq ?_
    refine cw_region ?_
    refine wl_v (ov_move rfl) rfl rfl rfl ?_
    refine wl_v (ov_move rfl) rfl rfl rfl ?_
    refine wl_if (ov_neqs rfl rfl) rfl rfl rfl (fun c18 => ?_) (fun c18 => ?_)
    ·
      first | (exfalso; omega) | exact absurd rfl c18 | exact absurd (by simp) c18 | (exfalso; simp at c18; omega) | exact absurd ⟨rfl, rfl⟩ c18
    ·
      refine wl_nil ?_
      refine ce_then ?_
      refine cw_false rfl ?_
      refine cw_skip ?_
      refine ce_then ?_
      refine cw_seq ?_
      refine cw_seq ?_
      refine cw_region ?_
      refine wl_v (ov_move rfl) rfl rfl rfl ?_
      refine wl_v (ov_move rfl) rfl rfl rfl ?_
      refine wl_r (or_call (fv := []) (vs := [.slice A (xs.length) (c)]) (cs := []) en13 rfl rfl (call_x1 (fun w hw => toIntS_c w A xs.length c xs ((holds_old oA) w hw) rfl lA (by first | assumption | omega | (simp; omega))))) rfl rfl (kt1p rfl (fun g_21 h_21 => ?_))
      refine wl_r (or_call (fv := []) (vs := [.slice (some ⟨g_13, 0, none⟩) (xs.length) (xs.length), .slice (some ⟨g_21, 0, none⟩) (xs.length) (xs.length)]) (cs := []) en15 rfl rfl (call_v (fun w hw => eqIntS_c w (some ⟨g_13, 0, none⟩) xs.length xs.length xs (some ⟨g_21, 0, none⟩) xs.length xs.length xs ((holds_row (List.Mem.tail _ (List.Mem.head _))) w hw) rfl (Nat.le_refl _) ((holds_row (List.Mem.head _)) w hw) rfl (Nat.le_refl _) (by first | assumption | omega | (simp; omega))))) rfl rfl (kt_if rfl (fun c22 => ?_) (fun c22 => ?_))
      ·
        refine wl_v (ov_not rfl) rfl rfl rfl ?_
        refine wl_nil ?_
        refine ce_then ?_
        refine cw_false rfl ?_
        refine cw_skip ?_
        refine ce_then ?_
        refine cw_seq ?_
        refine cw_region ?_
        refine wl_v (ov_assign rfl) rfl rfl rfl ?_
        refine wl_nil ?_
        refine ce_then ?_
        refine cw_ret ?_
        refine ce_results (v := .bool true) (res1 rfl (rv_t rfl)) (fun w' hw => ?_)
        exact ⟨rfl, (Keep.nil.ss hw).to_new⟩
      ·
        first | (exfalso; omega) | exact absurd rfl c22 | exact absurd (by simp) c22 | (exfalso; simp at c22; omega) | exact absurd ⟨rfl, rfl⟩ c22
end Go.Proofs.YthllnilddbdmaaaDoor.LFnExactDegreesText
