/- Walks of functions of the given program: each returns what its Lean function says and leaves the memory that was there as it was. Conditions: those of each theorem. -/
import Derived.Test.YtfjgfocjogfodaaSm
import Derived.Test.YtfjgfocjogfodaaProg
import Derived.Test.YtfjgfocjogfodaaPl
import Derived.Test.YtfjgfocjogfodaaPo
import Derived.Test.YtfjgfocjogfodaaPd
import Derived.Test.YtfjgfocjogfodaaPe
import Derived.Test.YtfjgfocjogfodaaPh
import Derived.Test.YtfjgfocjogfodaaPm
import Derived.Test.YtfjgfocjogfodaaPc
import Derived.Test.YtfjgfocjogfodaaPs
import Derived.Test.YtfjgfocjogfodaaPt
import Derived.Test.YtfjgfocjogfodaaPu
import Derived.Test.YtfjgfocjogfodaaPv
import Derived.Test.YtfjgfocjogfodaaPw
import Derived.Test.YtfjgfocjogfodaaT
import Derived.Test.YtfjgfocjogfodaaW7
import Derived.KernelRfl
namespace Go.Proofs.Ytfjgfocjogfodaa.W12
open Go.Sx Go.RowKit Go.Proofs.Ytfjgfocjogfodaa.T Go.Proofs.Ytfjgfocjogfodaa.W7
open Go.Plain
set_option linter.unusedVariables false
set_option maxRecDepth 100000 in
theorem compl1_c (w : World) (k : Nat) (g1 : Nat) (A : Option Addr) (n : Nat) (c : Nat) (xs : List Int) (hg1 : At w (some ⟨g1, 0, none⟩) [.slice A (n) (c)]) (hA : At w A (cells fI xs)) (eA : xs.length = n) (lA : n ≤ c) (hs : Small xs) (hi : k < n) : Calls Try.prog 70 #[.int .i64 (((k : Nat) : Int)), elp (some ⟨g1, 0, none⟩) (0)] w (Ret fun rv w' => rv = .int .i64 (complAt xs k) ∧ New w w' []) := by
  have og1 := hg1.atB
  have oA := hA.atB
  have hlen := hs.1
  have hx := hs.at_ (k := k) (by omega)
  refine fn_enter (args := [.int .i64 (((k : Nat) : Int)), elp (some ⟨g1, 0, none⟩) (0)]) Try.func70 rfl Try.ntmps70 rfl (SS.start w) ?_
  refine cw_seq ?_
  refine cw_region ?_
  refine wl_v (ov_assign rfl) rfl rfl rfl ?_
  refine wl_nil ?_
  refine ce_then ?_
  refine cw_seq ?_
  refine cw_draw mixO [] (.nil) rfl ?_
  refine wg_take (i := 0) rfl (ov_load tI31 (holds_old og1) rfl rfl) rfl rfl rfl (by kernel_rfl) (by kernel_rfl) (by kernel_rfl) (by kernel_rfl) ?_
  refine wg_takep (i := 1) rfl (ov_len (sliceI_spec sI31) rfl) rfl rfl rfl (by kernel_rfl) (by kernel_rfl) (by kernel_rfl) rfl ?_
  refine wg_takep (i := 2) rfl (ov_sub (r := ((n : Nat) : Int) - 1) rfl rfl rfl (by omega)) rfl rfl rfl (by kernel_rfl) (by kernel_rfl) (by kernel_rfl) rfl ?_
  refine wg_take (i := 3) rfl (ov_load tI31 (holds_old og1) rfl rfl) rfl rfl rfl (by kernel_rfl) (by kernel_rfl) (by kernel_rfl) (by kernel_rfl) ?_
  refine wg_takep (i := 4) rfl (ov_move rfl) rfl rfl rfl (by kernel_rfl) (by kernel_rfl) (by kernel_rfl) rfl ?_
  refine wg_take (i := 5) rfl (ov_index (k := k) (c := c) sI31 tI3 rfl rfl (some_holds (q := k * 1) (holds_old oA) (by rw [cells_length fI_len]; have hlt : k < xs.length := (by omega); omega)) (show k < n from (by omega))) rfl rfl rfl (by kernel_rfl) (by kernel_rfl) (by kernel_rfl) (by kernel_rfl) ?_
  refine wg_take (i := 6) rfl (ov_load tI3 (holds_old oA) rfl (get_fI (show k < xs.length from (by omega)))) rfl rfl rfl (by kernel_rfl) (by kernel_rfl) (by kernel_rfl) (by kernel_rfl) ?_
  refine wg_takep (i := 7) rfl (ov_sub (r := (((n : Nat) : Int) - 1) - (xs.getD k 0)) rfl rfl rfl (by omega)) rfl rfl rfl (by kernel_rfl) (by kernel_rfl) (by kernel_rfl) rfl ?_
  refine wg_takep (i := 8) rfl (ov_assign rfl) rfl rfl rfl (by kernel_rfl) (by kernel_rfl) (by kernel_rfl) rfl ?_
  refine wg_done (by kernel_rfl) ?_
  refine ce_then ?_
  refine cw_ret ?_
  refine ce_results (v := .int .i64 ((((n : Nat) : Int) - 1) - (xs.getD k 0))) (res1 rfl (rv_t rfl)) (fun w' hw => ?_)
  exact ⟨(by rw [complAt, eA]), (Keep.nil.ss hw).to_new⟩
set_option maxRecDepth 100000 in
theorem ComplementI_c (w : World) (A : Option Addr) (n : Nat) (c : Nat) (xs : List (Int)) (hA : At w A (cells fI xs)) (eA : xs.length = n) (lA : n ≤ c) (hs : xs.length ≤ 1048576) : Calls Try.prog 23 #[.slice A (n) (c)] w (Ret fun rv w' => ∃ A2 c2, ((complV xs).length ≤ c2) ∧ rv = .slice A2 ((complV xs).length) (c2) ∧ New w w' [row 3 1 A2 ((complV xs).length) (c2) (cells fI (complV xs))]) := by
  have oA := hA.atB
  subst eA
  refine fn_enter (args := [.slice A (xs.length) (c)]) Try.func23 rfl Try.ntmps23 rfl (SS.start w) ?_
  refine cw_seq ?_
  refine cw_region ?_
  refine wl_r (or_box rfl rfl) rfl rfl (kt1 rfl (fun g1 => ?_))
  refine wl_v (ov_assign rfl) rfl rfl rfl ?_
  refine wl_nil ?_
  refine ce_then ?_
  refine cw_seq ?_
  refine cw_region ?_
  refine wl_v (ov_load tI31 (holds_blk (List.Mem.head _)) rfl rfl) rfl rfl rfl ?_
  refine wl_v (ov_makeFunc (vs := #[elp (some ⟨g1, 0, none⟩) (0)]) rfl) rfl rfl rfl ?_
  refine wl_r (or_call (fv := []) (vs := [.slice A (xs.length) (c), .func (.func 70) #[] #[elp (some ⟨g1, 0, none⟩) (0)]]) (cs := []) en69 rfl rfl (call_x2 (fun w hw => each_c w A xs.length c xs 70 ([elp (some ⟨g1, 0, none⟩) (0)]) (complAt xs) ((holds_old oA) w hw) rfl lA (by first | assumption | omega | (simp; omega)) en70 (fun hV k hk w' hb => compl1_c w' k g1 A xs.length c xs ((holds_blk (List.Mem.head _)) w' (hw.later hb)) ((holds_old oA) w' (hw.later hb)) rfl lA hV.small hk)))) rfl rfl (kt2p rfl (fun A2_5 c2_5 h_5 => ?_))
  refine wl_v (ov_assign rfl) rfl rfl rfl ?_
  refine wl_nil ?_
  refine ce_then ?_
  refine cw_ret ?_
  refine ce_results (v := .slice A2_5 ((eachL xs (complAt xs)).length) (c2_5)) (res1 rfl (rv_t rfl)) (fun w' hw => ?_)
  exact ⟨A2_5, c2_5, h_5, rfl, ((.cons (.head) (.nil) : Keep _ _).ss hw).to_new⟩
end Go.Proofs.Ytfjgfocjogfodaa.W12
