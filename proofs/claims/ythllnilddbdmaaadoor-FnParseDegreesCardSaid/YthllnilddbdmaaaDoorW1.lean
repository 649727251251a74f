/- Walks of functions of the given program: each returns what its Lean function says and leaves the memory that was there as it was. Conditions: those of each theorem. -/
import Derived.Test.YthllnilddbdmaaaDoorSm
import Derived.Test.YthllnilddbdmaaaDoorProg
import Derived.Test.YthllnilddbdmaaaDoorPl
import Derived.Test.YthllnilddbdmaaaDoorPo
import Derived.Test.YthllnilddbdmaaaDoorPd
import Derived.Test.YthllnilddbdmaaaDoorPe
import Derived.Test.YthllnilddbdmaaaDoorPh
import Derived.Test.YthllnilddbdmaaaDoorPm
import Derived.Test.YthllnilddbdmaaaDoorPc
import Derived.Test.YthllnilddbdmaaaDoorPs
import Derived.Test.YthllnilddbdmaaaDoorPt
import Derived.Test.YthllnilddbdmaaaDoorPu
import Derived.Test.YthllnilddbdmaaaDoorPv
import Derived.Test.YthllnilddbdmaaaDoorPw
import Derived.Test.YthllnilddbdmaaaDoorPx
import Derived.Test.YthllnilddbdmaaaDoorPy
import Derived.Test.YthllnilddbdmaaaDoorPz
import Derived.Test.YthllnilddbdmaaaDoorPr
import Derived.Test.YthllnilddbdmaaaDoorPa
import Derived.Test.YthllnilddbdmaaaDoorPn
import Derived.Test.YthllnilddbdmaaaDoorPj
import Derived.Test.YthllnilddbdmaaaDoorPq
import Derived.Test.YthllnilddbdmaaaDoorSs
import Derived.Test.YthllnilddbdmaaaDoorPk
import Derived.Test.YthllnilddbdmaaaDoorSb
import Derived.Test.YthllnilddbdmaaaDoorT
import Derived.KernelRfl
namespace Go.Proofs.YthllnilddbdmaaaDoor.W1
open Go.Sx Go.RowKit Go.Proofs.YthllnilddbdmaaaDoor.T
open Go.Plain
set_option linter.unusedVariables false
set_option maxRecDepth 100000 in
theorem inRange_c (w : World) (m : Int) (lo : Int) (hi : Int)  : Calls Tryd.prog 41 #[.int .i64 (m), .int .i64 (lo), .int .i64 (hi)] w (Ret fun rv w' => rv = .bool (decide (lo ≤ m ∧ m ≤ hi)) ∧ New w w' []) := by
  refine fn_enter (args := [.int .i64 (m), .int .i64 (lo), .int .i64 (hi)]) Tryd.func41 rfl Tryd.ntmps41 rfl (SS.start w) ?_
  refine cw_seq ?_
  refine cw_region ?_
  refine wl_v (ov_assign rfl) rfl rfl rfl ?_
  refine wl_nil ?_
  refine ce_then ?_
  refine cw_seq ?_
  refine cw_region ?_
  refine wl_v (ov_move rfl) rfl rfl rfl ?_
  refine wl_v (ov_move rfl) rfl rfl rfl ?_
  refine wl_if (ov_leq rfl rfl) rfl rfl rfl (fun c9 => ?_) (fun c9 => ?_)
  ·
    refine wl_v (ov_move rfl) rfl rfl rfl ?_
    refine wl_go rfl rfl ?_
    refine wl_v (ov_move rfl) rfl rfl rfl ?_
    refine wl_go rfl rfl ?_
    refine wl_v (ov_move rfl) rfl rfl rfl ?_
    refine wl_go rfl rfl ?_
    refine wl_if (ov_leq rfl rfl) rfl rfl rfl (fun c13 => ?_) (fun c13 => ?_)
    ·
      refine wl_v (ov_pick_t rfl rfl) rfl rfl rfl ?_
      refine wl_v (ov_assign rfl) rfl rfl rfl ?_
      refine wl_nil ?_
      refine ce_then ?_
      refine cw_ret ?_
      refine ce_results (v := .bool true) (res1 rfl (rv_t rfl)) (fun w' hw => ?_)
      exact ⟨bt (by first | assumption | omega | simp_all), (Keep.nil.ss hw).to_new⟩
    ·
      refine wl_v (ov_pick_t rfl rfl) rfl rfl rfl ?_
      refine wl_v (ov_assign rfl) rfl rfl rfl ?_
      refine wl_nil ?_
      refine ce_then ?_
      refine cw_ret ?_
      refine ce_results (v := .bool false) (res1 rfl (rv_t rfl)) (fun w' hw => ?_)
      exact ⟨bf (by first | assumption | omega | simp_all), (Keep.nil.ss hw).to_new⟩
  ·
    refine wl_v (ov_move rfl) rfl rfl rfl ?_
    refine wl_not rfl rfl rfl rfl rfl rfl ?_
    refine wl_not rfl rfl rfl rfl rfl rfl ?_
    refine wl_not rfl rfl rfl rfl rfl rfl ?_
    refine wl_v (ov_pick_f rfl rfl) rfl rfl rfl ?_
    refine wl_v (ov_assign rfl) rfl rfl rfl ?_
    refine wl_nil ?_
    refine ce_then ?_
    refine cw_ret ?_
    refine ce_results (v := .bool false) (res1 rfl (rv_t rfl)) (fun w' hw => ?_)
    exact ⟨bf (by first | assumption | omega | simp_all), (Keep.nil.ss hw).to_new⟩
end Go.Proofs.YthllnilddbdmaaaDoor.W1
