/- Walks of functions of the given program: each returns what its Lean function says and leaves the memory that was there as it was. Conditions: those of each theorem. -/
import Derived.Test.YthllnilddbdmaaaDoorSm
import Derived.Test.YthllnilddbdmaaaDoorProg
import Derived.Test.YthllnilddbdmaaaDoorPl
import Derived.Test.YthllnilddbdmaaaDoorPo
import Derived.Test.YthllnilddbdmaaaDoorPd
import Derived.Test.YthllnilddbdmaaaDoorPe
import Derived.Test.YthllnilddbdmaaaDoorPh
import Derived.Test.YthllnilddbdmaaaDoorPm
import Derived.Test.YthllnilddbdmaaaDoorPc
import Derived.Test.YthllnilddbdmaaaDoorPs
import Derived.Test.YthllnilddbdmaaaDoorPt
import Derived.Test.YthllnilddbdmaaaDoorPu
import Derived.Test.YthllnilddbdmaaaDoorPv
import Derived.Test.YthllnilddbdmaaaDoorPw
import Derived.Test.YthllnilddbdmaaaDoorPx
import Derived.Test.YthllnilddbdmaaaDoorPy
import Derived.Test.YthllnilddbdmaaaDoorPz
import Derived.Test.YthllnilddbdmaaaDoorPr
import Derived.Test.YthllnilddbdmaaaDoorPa
import Derived.Test.YthllnilddbdmaaaDoorPn
import Derived.Test.YthllnilddbdmaaaDoorPj
import Derived.Test.YthllnilddbdmaaaDoorPq
import Derived.Test.YthllnilddbdmaaaDoorSs
import Derived.Test.YthllnilddbdmaaaDoorPk
import Derived.Test.YthllnilddbdmaaaDoorSb
import Derived.Test.YthllnilddbdmaaaDoorT
import Derived.KernelRfl
namespace Go.Proofs.YthllnilddbdmaaaDoor.W12
open Go.Sx Go.RowKit Go.Proofs.YthllnilddbdmaaaDoor.T
open Go.Plain
set_option linter.unusedVariables false
set_option maxRecDepth 100000 in
theorem equalInts_c (w : World) (A : Option Addr) (n : Nat) (c : Nat) (xs : List (Int)) (A2 : Option Addr) (n2 : Nat) (c2 : Nat) (ys : List (Int)) (hA : At w A (cells fI xs)) (eA : xs.length = n) (lA : n ≤ c) (hA2 : At w A2 (cells fI ys)) (eA2 : ys.length = n2) (lA2 : n2 ≤ c2) (hs : xs.length ≤ 1048576) : Calls Tryd.prog 19 #[.slice A (n) (c), .slice A2 (n2) (c2)] w (Ret fun rv w' => rv = .bool (decide (xs = ys)) ∧ New w w' []) := by
  have oA := hA.atB
  subst eA
  have oA2 := hA2.atB
  subst eA2
  refine fn_enter (args := [.slice A (xs.length) (c), .slice A2 (ys.length) (c2)]) Tryd.func19 rfl Tryd.ntmps19 rfl (SS.start w) ?_
  refine cw_seq ?_
  refine cw_region ?_
  refine wl_v (ov_assign rfl) rfl rfl rfl ?_
  refine wl_nil ?_
  refine ce_then ?_
  refine cw_seq ?_
  refine cw_seq ?_
  refine cw_region ?_
  refine wl_v (ov_move rfl) rfl rfl rfl ?_
  refine wl_v (ov_len (sliceI_spec sI33) rfl) rfl rfl rfl ?_
  refine wl_v (ov_move rfl) rfl rfl rfl ?_
  refine wl_v (ov_len (sliceI_spec sI33) rfl) rfl rfl rfl ?_
  refine wl_if (ov_neq rfl rfl) rfl rfl rfl (fun c10 => ?_) (fun c10 => ?_)
  ·
    refine wl_nil ?_
    refine ce_then ?_
    refine cw_true rfl ?_
    refine cw_seq ?_
    refine cw_region ?_
    refine wl_v (ov_assign rfl) rfl rfl rfl ?_
    refine wl_nil ?_
    refine ce_then ?_
    refine cw_ret ?_
    refine ce_then_ret ?_
    refine ce_results (v := .bool false) (res1 rfl (rv_t rfl)) (fun w' hw => ?_)
    exact ⟨(bf (fun h => c10 (by rw [h]))), (Keep.nil.ss hw).to_new⟩
  ·
    refine wl_nil ?_
    refine ce_then ?_
    refine cw_false rfl ?_
    refine cw_skip ?_
    refine ce_then ?_
    refine cw_seq ?_
    refine cw_seq ?_
    refine cw_region ?_
    refine wl_v (ov_assign rfl) rfl rfl rfl ?_
    refine wl_nil ?_
    refine ce_then ?_
    refine cw_block ?_
    refine cw_loop1 (fun (k : Nat) => [(0, .slice A (xs.length) (c)), (1, .slice A2 (ys.length) (c2)), (5, .int .i64 (((k : Nat) : Int)))]) (fun (k : Nat) => []) (fun (k : Nat) => k ≤ xs.length ∧ xs.take k = ys.take k) (fun (k : Nat) => xs.length - k) 0 ⟨by omega, rfl⟩ (.cons rfl (.cons rfl (.cons (congrArg (fun z => some (Value.int .i64 z)) (show 0 = ((0 : Nat) : Int) by first | omega | rfl | (simp; done))) (.nil)))) (.nil) ?_
    intro R0 k hk hR0
    obtain ⟨hk1, hk2⟩ := hk
    refine cw_seq ?_
    refine cw_seq ?_
    refine cw_region ?_
    refine wl_v (ov_move rfl) rfl rfl rfl ?_
    refine wl_v (ov_move rfl) rfl rfl rfl ?_
    refine wl_v (ov_len (sliceI_spec sI33) rfl) rfl rfl rfl ?_
    refine wl_if (ov_lss rfl rfl) rfl rfl rfl (fun c14 => ?_) (fun c14 => ?_)
    ·
      refine wl_nil ?_
      refine ce_then ?_
      refine cw_true rfl ?_
      refine cw_skip ?_
      refine ce_then ?_
      refine cw_seq ?_
      refine cw_block ?_
      refine cw_seq ?_
      refine cw_draw mixO [] (.nil) rfl ?_
      refine wg_takep (i := 0) rfl (ov_move rfl) rfl rfl rfl (by kernel_rfl) (by kernel_rfl) (by kernel_rfl) rfl ?_
      refine wg_takep (i := 1) rfl (ov_move rfl) rfl rfl rfl (by kernel_rfl) (by kernel_rfl) (by kernel_rfl) rfl ?_
      refine wg_take (i := 2) rfl (ov_index (k := k) (c := c) sI33 tI3 rfl rfl (some_holds (q := k * 1) (holds_old oA) (by rw [cells_length fI_len]; have hlt : k < xs.length := (by first | omega | (simp; omega)); omega)) (show k < xs.length from (by first | omega | (simp; omega)))) rfl rfl rfl (by kernel_rfl) (by kernel_rfl) (by kernel_rfl) (by kernel_rfl) ?_
      refine wg_take (i := 3) rfl (ov_load tI3 (holds_old oA) rfl (get_fI (show k < xs.length from (by first | omega | (simp; omega))))) rfl rfl rfl (by kernel_rfl) (by kernel_rfl) (by kernel_rfl) (by kernel_rfl) ?_
      refine wg_takep (i := 4) rfl (ov_move rfl) rfl rfl rfl (by kernel_rfl) (by kernel_rfl) (by kernel_rfl) rfl ?_
      refine wg_takep (i := 5) rfl (ov_move rfl) rfl rfl rfl (by kernel_rfl) (by kernel_rfl) (by kernel_rfl) rfl ?_
      refine wg_take (i := 6) rfl (ov_index (k := k) (c := c2) sI33 tI3 rfl rfl (some_holds (q := k * 1) (holds_old oA2) (by rw [cells_length fI_len]; have hlt : k < ys.length := (by first | omega | (simp; omega)); omega)) (show k < ys.length from (by first | omega | (simp; omega)))) rfl rfl rfl (by kernel_rfl) (by kernel_rfl) (by kernel_rfl) (by kernel_rfl) ?_
      refine wg_take (i := 7) rfl (ov_load tI3 (holds_old oA2) rfl (get_fI (show k < ys.length from (by first | omega | (simp; omega))))) rfl rfl rfl (by kernel_rfl) (by kernel_rfl) (by kernel_rfl) (by kernel_rfl) ?_
      refine wg_takep_if (i := 8) rfl (ov_neq rfl rfl) rfl rfl rfl (by kernel_rfl) (by kernel_rfl) (by kernel_rfl) rfl (fun c25 => ?_) (fun c25 => ?_)
      ·
        refine wg_done (by kernel_rfl) ?_
        refine ce_then ?_
        refine cw_true rfl ?_
        refine cw_seq ?_
        refine cw_region ?_
        refine wl_v (ov_assign rfl) rfl rfl rfl ?_
        refine wl_nil ?_
        refine ce_then ?_
        refine cw_ret ?_
        refine ce_block_ret ?_
        refine ce_then_ret ?_
        refine ce_then_ret ?_
        refine ce_block_ret ?_
        refine ce_then_ret ?_
        refine ce_results (v := .bool false) (res1 rfl (rv_t rfl)) (fun w' hw => ?_)
        exact ⟨(bf (fun h => c25 (by rw [h]))), (Keep.nil.ss hw).to_new⟩
      ·
        refine wg_done (by kernel_rfl) ?_
        refine ce_then ?_
        refine cw_false rfl ?_
        refine cw_skip ?_
        refine ce_block ?_
        refine ce_then ?_
        refine cw_region ?_
        refine wl_v (ov_move rfl) rfl rfl rfl ?_
        refine wl_v (ov_add (r := ((k + 1 : Nat) : Int)) rfl rfl rfl (by omega)) rfl rfl rfl ?_
        refine wl_v (ov_assign rfl) rfl rfl rfl ?_
        refine wl_nil ?_
        exact fun ac_ w_ hs_ => hR0 (k + 1) ⟨by omega, take_eq_step 0 (by omega) (by omega) hk2 (by omega)⟩ (by omega) ac_ w_ (hs_.weaken (.cons rfl (.cons rfl (.cons rfl (.nil)))) (.nil))
    ·
      refine wl_nil ?_
      refine ce_then ?_
      refine cw_false rfl ?_
      refine cw_exit ?_
      refine ce_then_exit ?_
      refine ce_then_exit ?_
      refine ce_hit ?_
      refine ce_then ?_
      refine cw_seq ?_
      refine cw_region ?_
      refine wl_v (ov_assign rfl) rfl rfl rfl ?_
      refine wl_nil ?_
      refine ce_then ?_
      refine cw_ret ?_
      refine ce_results (v := .bool true) (res1 rfl (rv_t rfl)) (fun w' hw => ?_)
      exact ⟨(bt (by rwa [List.take_of_length_le (by omega), List.take_of_length_le (by omega)] at hk2)), (Keep.nil.ss hw).to_new⟩
end Go.Proofs.YthllnilddbdmaaaDoor.W12
