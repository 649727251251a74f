/- Walks of functions of the given program: each returns what its Lean function says and leaves the memory that was there as it was. Conditions: those of each theorem. -/
import Derived.Test.YthbfgkeoojghoaaSm
import Derived.Test.YthbfgkeoojghoaaProg
import Derived.Test.YthbfgkeoojghoaaPl
import Derived.Test.YthbfgkeoojghoaaPo
import Derived.Test.YthbfgkeoojghoaaPd
import Derived.Test.YthbfgkeoojghoaaPe
import Derived.Test.YthbfgkeoojghoaaPh
import Derived.Test.YthbfgkeoojghoaaPm
import Derived.Test.YthbfgkeoojghoaaPc
import Derived.Test.YthbfgkeoojghoaaPs
import Derived.Test.YthbfgkeoojghoaaPt
import Derived.Test.YthbfgkeoojghoaaPu
import Derived.Test.YthbfgkeoojghoaaPv
import Derived.Test.YthbfgkeoojghoaaPw
import Derived.Test.YthbfgkeoojghoaaSo
import Derived.Test.YthbfgkeoojghoaaSh
import Derived.Test.YthbfgkeoojghoaaT
import Derived.Test.YthbfgkeoojghoaaW2
import Derived.KernelRfl
namespace Go.Proofs.Ythbfgkeoojghoaa.W34
open Go.Sx Go.RowKit Go.Proofs.Ythbfgkeoojghoaa.T Go.Proofs.Ythbfgkeoojghoaa.W2
open Go.Plain
set_option linter.unusedVariables false
set_option maxRecDepth 100000 in
theorem ValidMatI_c (w : World) (A : Option Addr) (n : Nat) (c : Nat) (hs : List Hd) (xss : List (List Int)) (hA : At w A (cells fL hs)) (eA : xss.length = n) (lA : n ≤ c) (fA : NestF hs xss) (mA : Mx w hs xss) (hsz : xss.length ≤ 1048576 ∧ ∀ r ∈ xss, r.length ≤ 1048576) : Calls Try.prog 124 #[.slice A (n) (c)] w (Ret fun rv w' => rv = .bool (decide (MatP xss)) ∧ New w w' []) := by
  have oA := hA.atB
  subst eA
  have flA := fA.1
  have omA := Mx.atB mA
  have hcn : colsN xss = (xss.getD 0 []).length := rfl
  refine fn_enter (args := [.slice A (xss.length) (c)]) Try.func124 rfl Try.ntmps124 rfl (SS.start w) ?_
  refine cw_seq ?_
  refine cw_region ?_
  refine wl_v (ov_assign rfl) rfl rfl rfl ?_
  refine wl_nil ?_
  refine ce_then ?_
  refine cw_seq ?_
  refine cw_seq ?_
  refine cw_region ?_
  refine wl_v (ov_move rfl) rfl rfl rfl ?_
  refine wl_v (ov_len (sliceI_spec sI50) rfl) rfl rfl rfl ?_
  refine wl_v (ov_move rfl) rfl rfl rfl ?_
  refine wl_nil ?_
  refine ce_then ?_
  refine cw_block ?_
  refine cw_loop1 (fun (k : Nat) => [(0, .slice A (xss.length) (c)), (5, .slice A (xss.length) (c)), (6, .int .i64 (((xss.length : Nat) : Int))), (7, .int .i64 (((k : Nat) : Int)))]) (fun (k : Nat) => []) (fun (k : Nat) => k ≤ xss.length ∧ ∀ r ∈ xss.take k, r.length = colsN xss ∧ (1 ≤ r.length ∧ r.length ≤ 5) ∧ ∀ x ∈ r, 0 ≤ x ∧ x ≤ 1) (fun (k : Nat) => xss.length - k) 0 ⟨by omega, by simp⟩ (.cons rfl (.cons rfl (.cons rfl (.cons (congrArg (fun z => some (Value.int .i64 z)) (show 0 = ((0 : Nat) : Int) by first | omega | rfl | (simp; done))) (.nil))))) (.nil) ?_
  intro R0 k hk hR0
  obtain ⟨hk1, hk2⟩ := hk
  refine cw_seq ?_
  refine cw_region ?_
  refine wl_if (ov_lss rfl rfl) rfl rfl rfl (fun c8 => ?_) (fun c8 => ?_)
  ·
    refine wl_nil ?_
    refine ce_then ?_
    refine cw_seq ?_
    refine cw_true rfl ?_
    refine cw_skip ?_
    refine ce_then ?_
    refine cw_seq ?_
    refine cw_block ?_
    refine cw_seq ?_
    refine cw_region ?_
    refine wl_v (ov_index (k := k) (c := c) sI50 tI27 rfl rfl (some_holds (q := k * 1) (holds_old oA) (by rw [cells_length fL_len]; have hlt : k < hs.length := (by omega); omega)) (show k < xss.length from (by omega))) rfl rfl rfl ?_
    refine wl_v (ov_load tI27 (holds_old oA) rfl (get_fLn fA (show k < xss.length from (by omega)))) rfl rfl rfl ?_
    refine wl_v (ov_assign rfl) rfl rfl rfl ?_
    refine wl_nil ?_
    refine ce_then ?_
    refine cw_seq ?_
    refine cw_region ?_
    refine wl_v (ov_move rfl) rfl rfl rfl ?_
    refine wl_v (ov_len (sliceI_spec sI27) rfl) rfl rfl rfl ?_
    refine wl_v (ov_move rfl) rfl rfl rfl ?_
    refine wl_v (ov_index (k := 0) (c := c) sI50 tI27 rfl rfl (some_holds (q := 0 * 1) (holds_old oA) (by rw [cells_length fL_len]; have hlt : 0 < hs.length := (by omega); omega)) (show 0 < xss.length from (by omega))) rfl rfl rfl ?_
    refine wl_v (ov_load tI27 (holds_old oA) rfl (get_fLn fA (show 0 < xss.length from (by omega)))) rfl rfl rfl ?_
    refine wl_v (ov_len (sliceI_spec sI27) rfl) rfl rfl rfl ?_
    refine wl_if (ov_neq rfl rfl) rfl rfl rfl (fun c17 => ?_) (fun c17 => ?_)
    ·
      refine wl_v (ov_move rfl) rfl rfl rfl ?_
      refine wl_not rfl rfl rfl rfl rfl rfl ?_
      refine wl_not rfl rfl rfl rfl rfl rfl ?_
      refine wl_not rfl rfl rfl rfl rfl rfl ?_
      refine wl_not rfl rfl rfl rfl rfl rfl ?_
      refine wl_v (ov_pick_t rfl rfl) rfl rfl rfl ?_
      refine wl_v (ov_move rfl) rfl rfl rfl ?_
      refine wl_not rfl rfl rfl rfl rfl rfl ?_
      refine wl_not rfl rfl rfl rfl rfl rfl ?_
      refine wl_not rfl rfl rfl rfl rfl rfl ?_
      refine wl_v (ov_pick_t rfl rfl) rfl rfl rfl ?_
      refine wl_nil ?_
      refine ce_then ?_
      refine cw_true rfl ?_
      refine cw_seq ?_
      refine cw_region ?_
      refine wl_v (ov_assign rfl) rfl rfl rfl ?_
      refine wl_nil ?_
      refine ce_then ?_
      refine cw_ret ?_
      refine ce_block_ret ?_
      refine ce_then_ret ?_
      refine ce_then_ret ?_
      refine ce_block_ret ?_
      refine ce_then_ret ?_
      refine ce_results (v := .bool false) (res1 rfl (rv_t rfl)) (fun w' hw => ?_)
      exact ⟨(bf (fun h => c17 (by have := (h.2 _ (getD_mem (xs := xss) (k := k) [] (by omega))).1; omega))), (Keep.nil.ss hw).to_new⟩
    ·
      refine wl_v (ov_move rfl) rfl rfl rfl ?_
      refine wl_go rfl rfl ?_
      refine wl_v (ov_move rfl) rfl rfl rfl ?_
      refine wl_go rfl rfl ?_
      refine wl_v (ov_len (sliceI_spec sI27) rfl) rfl rfl rfl ?_
      refine wl_go rfl rfl ?_
      refine wl_r (or_call (fv := []) (vs := [.int .i64 ((((xss.getD k []).length : Nat) : Int)), .int .i64 (1), .int .i64 (5)]) (cs := []) en58 rfl rfl (call_v (fun w hw => in_c w (((xss.getD k []).length : Nat) : Int) 1 5 ))) rfl rfl (kt_if rfl (fun c21 => ?_) (fun c21 => ?_))
      ·
        refine wl_go rfl rfl ?_
        refine wl_v (ov_not rfl) rfl rfl rfl ?_
        refine wl_v (ov_pick_f rfl rfl) rfl rfl rfl ?_
        refine wl_v (ov_move rfl) rfl rfl rfl ?_
        refine wl_go rfl rfl ?_
        refine wl_v (ov_move rfl) rfl rfl rfl ?_
        refine wl_go rfl rfl ?_
        refine wl_r (or_call (fv := []) (vs := [.slice ((hs.getD k (none, 0, 0)).1) ((xss.getD k []).length) ((hs.getD k (none, 0, 0)).2.2), .int .i64 (0), .int .i64 (1)]) (cs := []) en119 rfl rfl (call_v (fun w hw => allIn_c w ((hs.getD k (none, 0, 0)).1) ((xss.getD k []).length) ((hs.getD k (none, 0, 0)).2.2) (xss.getD k []) 0 1 ((mx_at (mx_old omA) (show k < xss.length from (by omega))) w hw) rfl (fA.2 k (show k < xss.length from (by omega))).2 (by have := hsz.2 _ (getD_mem (xs := xss) (k := k) [] (by omega)); omega)))) rfl rfl (kt_if rfl (fun c26 => ?_) (fun c26 => ?_))
        ·
          refine wl_go rfl rfl ?_
          refine wl_v (ov_not rfl) rfl rfl rfl ?_
          refine wl_v (ov_pick_f rfl rfl) rfl rfl rfl ?_
          refine wl_nil ?_
          refine ce_then ?_
          refine cw_false rfl ?_
          refine cw_skip ?_
          refine ce_block ?_
          refine ce_then ?_
          refine cw_region ?_
          refine wl_v (ov_add (r := ((k + 1 : Nat) : Int)) rfl rfl rfl (by omega)) rfl rfl rfl ?_
          refine wl_v (ov_move rfl) rfl rfl rfl ?_
          refine wl_nil ?_
          exact fun ac_ w_ hs_ => hR0 (k + 1) ⟨by omega, all_take_step (p := (fun r : List Int => r.length = colsN xss ∧ (1 ≤ r.length ∧ r.length ≤ 5) ∧ ∀ x ∈ r, 0 ≤ x ∧ x ≤ 1)) [] (by omega) hk2 ⟨by omega, by omega, c26⟩⟩ (by omega) ac_ w_ (hs_.weaken (.cons rfl (.cons rfl (.cons rfl (.cons rfl (.nil))))) (.nil))
        ·
          refine wl_go rfl rfl ?_
          refine wl_v (ov_not rfl) rfl rfl rfl ?_
          refine wl_v (ov_pick_f rfl rfl) rfl rfl rfl ?_
          refine wl_nil ?_
          refine ce_then ?_
          refine cw_true rfl ?_
          refine cw_seq ?_
          refine cw_region ?_
          refine wl_v (ov_assign rfl) rfl rfl rfl ?_
          refine wl_nil ?_
          refine ce_then ?_
          refine cw_ret ?_
          refine ce_block_ret ?_
          refine ce_then_ret ?_
          refine ce_then_ret ?_
          refine ce_block_ret ?_
          refine ce_then_ret ?_
          refine ce_results (v := .bool false) (res1 rfl (rv_t rfl)) (fun w' hw => ?_)
          exact ⟨(bf (fun h => c26 (h.2 _ (getD_mem (xs := xss) (k := k) [] (by omega))).2.2)), (Keep.nil.ss hw).to_new⟩
      ·
        refine wl_go rfl rfl ?_
        refine wl_v (ov_not rfl) rfl rfl rfl ?_
        refine wl_v (ov_pick_f rfl rfl) rfl rfl rfl ?_
        refine wl_v (ov_move rfl) rfl rfl rfl ?_
        refine wl_not rfl rfl rfl rfl rfl rfl ?_
        refine wl_not rfl rfl rfl rfl rfl rfl ?_
        refine wl_not rfl rfl rfl rfl rfl rfl ?_
        refine wl_v (ov_pick_t rfl rfl) rfl rfl rfl ?_
        refine wl_nil ?_
        refine ce_then ?_
        refine cw_true rfl ?_
        refine cw_seq ?_
        refine cw_region ?_
        refine wl_v (ov_assign rfl) rfl rfl rfl ?_
        refine wl_nil ?_
        refine ce_then ?_
        refine cw_ret ?_
        refine ce_block_ret ?_
        refine ce_then_ret ?_
        refine ce_then_ret ?_
        refine ce_block_ret ?_
        refine ce_then_ret ?_
        refine ce_results (v := .bool false) (res1 rfl (rv_t rfl)) (fun w' hw => ?_)
        exact ⟨(bf (fun h => c21 (by have := (h.2 _ (getD_mem (xs := xss) (k := k) [] (by omega))).2.1; omega))), (Keep.nil.ss hw).to_new⟩
  ·
    refine wl_nil ?_
    refine ce_then ?_
    refine cw_seq ?_
    refine cw_false rfl ?_
    refine cw_exit ?_
    refine ce_then_exit ?_
    refine ce_then_exit ?_
    refine ce_hit ?_
    refine ce_then ?_
    refine cw_seq ?_
    refine cw_region ?_
    refine wl_v (ov_move rfl) rfl rfl rfl ?_
    refine wl_v (ov_len (sliceI_spec sI50) rfl) rfl rfl rfl ?_
    refine wl_r (or_call (fv := []) (vs := [.int .i64 (((xss.length : Nat) : Int)), .int .i64 (1), .int .i64 (5)]) (cs := []) en58 rfl rfl (call_v (fun w hw => in_c w ((xss.length : Nat) : Int) 1 5 ))) rfl rfl (kt_if rfl (fun c32 => ?_) (fun c32 => ?_))
    ·
      refine wl_v (ov_assign rfl) rfl rfl rfl ?_
      refine wl_nil ?_
      refine ce_then ?_
      refine cw_ret ?_
      refine ce_results (v := .bool true) (res1 rfl (rv_t rfl)) (fun w' hw => ?_)
      exact ⟨(bt ⟨by omega, take_all (p := (fun r : List Int => r.length = colsN xss ∧ (1 ≤ r.length ∧ r.length ≤ 5) ∧ ∀ x ∈ r, 0 ≤ x ∧ x ≤ 1)) (k := k) (by omega) hk2⟩), (Keep.nil.ss hw).to_new⟩
    ·
      refine wl_v (ov_assign rfl) rfl rfl rfl ?_
      refine wl_nil ?_
      refine ce_then ?_
      refine cw_ret ?_
      refine ce_results (v := .bool false) (res1 rfl (rv_t rfl)) (fun w' hw => ?_)
      exact ⟨(bf (fun h => c32 (by have := h.1; omega))), (Keep.nil.ss hw).to_new⟩
set_option maxRecDepth 100000 in
theorem MarginsI_c (w : World) (A : Option Addr) (n : Nat) (c : Nat) (hs : List Hd) (xss : List (List Int)) (hA : At w A (cells fL hs)) (eA : xss.length = n) (lA : n ≤ c) (fA : NestF hs xss) (mA : Mx w hs xss) (hsz : xss.length ≤ 1048576 ∧ ∀ r ∈ xss, r.length ≤ 1048576) : Calls Try.prog 125 #[.slice A (n) (c)] w (Ret fun rv w' => ∃ A2 c2 A3 c3, ((margV xss).1.length ≤ c2 ∧ (margV xss).2.length ≤ c3) ∧ rv = .tuple #[.slice A2 ((margV xss).1.length) (c2), .slice A3 ((margV xss).2.length) (c3)] ∧ New w w' [row 3 1 A2 ((margV xss).1.length) (c2) (cells fI ((margV xss).1)), row 3 1 A3 ((margV xss).2.length) (c3) (cells fI ((margV xss).2))]) := by
  have oA := hA.atB
  subst eA
  have flA := fA.1
  have omA := Mx.atB mA
  have hcn : colsN xss = (xss.getD 0 []).length := rfl
  refine fn_enter (args := [.slice A (xss.length) (c)]) Try.func125 rfl Try.ntmps125 rfl (SS.start w) ?_
  refine cw_seq ?_
  refine cw_region ?_
  refine wl_v (ov_assign rfl) rfl rfl rfl ?_
  refine wl_v (ov_assign rfl) rfl rfl rfl ?_
  refine wl_nil ?_
  refine ce_then ?_
  refine cw_seq ?_
  refine cw_seq ?_
  refine cw_region ?_
  refine wl_v (ov_move rfl) rfl rfl rfl ?_
  refine wl_r (or_call (fv := []) (vs := [.slice A (xss.length) (c)]) (cs := []) en124 rfl rfl (call_v (fun w hw => ValidMatI_c w A xss.length c hs xss ((holds_old oA) w hw) rfl lA fA ((mx_old omA) w hw) (by first | assumption | omega | (simp; omega))))) rfl rfl (kt_if rfl (fun c11 => ?_) (fun c11 => ?_))
  ·
    have hv : margV xss = (rsum xss, csum xss) := if_pos c11
    have hv1 : (margV xss).1 = rsum xss := by rw [hv]
    have hv2 : (margV xss).2 = csum xss := by rw [hv]
    have hl1 : (margV xss).1.length = xss.length := by rw [hv1, rsum_len]
    have hl2 : (margV xss).2.length = colsN xss := by rw [hv2, csum_len]
    have hM := c11
    have hcs := hM.cols
    have hM1 := hM.1
    refine wl_v (ov_not rfl) rfl rfl rfl ?_
    refine wl_nil ?_
    refine ce_then ?_
    refine cw_false rfl ?_
    refine cw_skip ?_
    refine ce_then ?_
    refine cw_seq ?_
    refine cw_draw mixO [] (.nil) rfl ?_
    refine wg_takep (i := 0) rfl (ov_move rfl) rfl rfl rfl (by kernel_rfl) (by kernel_rfl) (by kernel_rfl) rfl ?_
    refine wg_takep (i := 1) rfl (ov_len (sliceI_spec sI50) rfl) rfl rfl rfl (by kernel_rfl) (by kernel_rfl) (by kernel_rfl) rfl ?_
    refine wg_takep (i := 3) rfl (ov_move rfl) rfl rfl rfl (by kernel_rfl) (by kernel_rfl) (by kernel_rfl) rfl ?_
    refine wg_take (i := 4) rfl (ov_index (k := 0) (c := c) sI50 tI27 rfl rfl (some_holds (q := 0 * 1) (holds_old oA) (by rw [cells_length fL_len]; have hlt : 0 < hs.length := (by omega); omega)) (show 0 < xss.length from (by omega))) rfl rfl rfl (by kernel_rfl) (by kernel_rfl) (by kernel_rfl) (by kernel_rfl) ?_
    refine wg_take (i := 5) rfl (ov_load tI27 (holds_old oA) rfl (get_fLn fA (show 0 < xss.length from (by omega)))) rfl rfl rfl (by kernel_rfl) (by kernel_rfl) (by kernel_rfl) (by kernel_rfl) ?_
    refine wg_takep (i := 6) rfl (ov_len (sliceI_spec sI27) rfl) rfl rfl rfl (by kernel_rfl) (by kernel_rfl) (by kernel_rfl) rfl ?_
    refine wg_two (i := 2) (j := 7) (by kernel_rfl) ?_ ?_
    ·
      refine go_r rfl rfl rfl rfl (or_makeSlice (m := xss.length) sI27 tI3 rfl rfl (made_fI _) (by omega) (show xss.length ≤ maxLen by simp only [maxLen]; omega)) (kt1 rfl (fun g15 => ?_))
      refine gk (.nil) ?_
      refine wg_takep (i := 8) rfl (ov_assign rfl) rfl rfl rfl (by kernel_rfl) (by kernel_rfl) (by kernel_rfl) rfl ?_
      refine wg_one (i := 7) (by kernel_rfl) ?_
      refine go_r rfl rfl rfl rfl (or_makeSlice (m := (xss.getD 0 []).length) sI27 tI3 rfl rfl (made_fI _) (by omega) (show (xss.getD 0 []).length ≤ maxLen by simp only [maxLen]; omega)) (kt1 rfl (fun g20 => ?_))
      refine gk (.nil) ?_
      refine wg_takep (i := 9) rfl (ov_assign rfl) rfl rfl rfl (by kernel_rfl) (by kernel_rfl) (by kernel_rfl) rfl ?_
      refine wg_done (by kernel_rfl) ?_
      refine ce_then ?_
      refine cw_seq ?_
      refine cw_seq ?_
      refine cw_region ?_
      refine wl_v (ov_move rfl) rfl rfl rfl ?_
      refine wl_v (ov_len (sliceI_spec sI50) rfl) rfl rfl rfl ?_
      refine wl_v (ov_move rfl) rfl rfl rfl ?_
      refine wl_nil ?_
      refine ce_then ?_
      refine cw_block ?_
      refine cw_loop1 (fun (i : Nat) => [(2, .slice none (0) (0)), (3, .slice none (0) (0)), (4, .slice (some ⟨g15, 0, none⟩) (xss.length) (xss.length)), (5, .slice (some ⟨g20, 0, none⟩) ((xss.getD 0 []).length) ((xss.getD 0 []).length)), (21, .slice A (xss.length) (c)), (22, .int .i64 (((xss.length : Nat) : Int))), (23, .int .i64 (((i : Nat) : Int)))]) (fun (i : Nat) => [row 3 1 (some ⟨g20, 0, none⟩) ((xss.getD 0 []).length) ((xss.getD 0 []).length) (cells fI (accC xss i 0)), row 3 1 (some ⟨g15, 0, none⟩) (xss.length) (xss.length) (cells fI (accR xss i 0))]) (fun (i : Nat) => i ≤ xss.length) (fun (i : Nat) => xss.length - i) 0 (by omega) (.cons rfl (.cons rfl (.cons rfl (.cons rfl (.cons rfl (.cons rfl (.cons (congrArg (fun z => some (Value.int .i64 z)) (show 0 = ((0 : Nat) : Int) by first | omega | rfl | (simp; done))) (.nil)))))))) (.consE (show row 3 1 (some ⟨g20, 0, none⟩) ((xss.getD 0 []).length) ((xss.getD 0 []).length) (cells fI (List.replicate ((xss.getD 0 []).length) 0)) = row 3 1 (some ⟨g20, 0, none⟩) ((xss.getD 0 []).length) ((xss.getD 0 []).length) (cells fI (accC xss 0 0)) by rw [accC_zero, hcn]) (.head) (.consE (show row 3 1 (some ⟨g15, 0, none⟩) (xss.length) (xss.length) (cells fI (List.replicate xss.length 0)) = row 3 1 (some ⟨g15, 0, none⟩) (xss.length) (xss.length) (cells fI (accR xss 0 0)) by rw [accR_zero]) (.head) (.nil))) ?_
      intro R0 i hk hR0
      refine cw_seq ?_
      refine cw_region ?_
      refine wl_if (ov_lss rfl rfl) rfl rfl rfl (fun c24 => ?_) (fun c24 => ?_)
      ·
        refine wl_nil ?_
        refine ce_then ?_
        refine cw_seq ?_
        refine cw_true rfl ?_
        refine cw_skip ?_
        refine ce_then ?_
        refine cw_seq ?_
        refine cw_block ?_
        refine cw_seq ?_
        refine cw_region ?_
        refine wl_v (ov_move rfl) rfl rfl rfl ?_
        refine wl_v (ov_index (k := i) (c := c) sI50 tI27 rfl rfl (some_holds (q := i * 1) (holds_old oA) (by rw [cells_length fL_len]; have hlt : i < hs.length := (by omega); omega)) (show i < xss.length from (by omega))) rfl rfl rfl ?_
        refine wl_v (ov_load tI27 (holds_old oA) rfl (get_fLn fA (show i < xss.length from (by omega)))) rfl rfl rfl ?_
        have hri := hM.2 _ (getD_mem (xs := xss) (k := i) [] (by omega))
        refine wl_v (ov_assign rfl) rfl rfl rfl ?_
        refine wl_v (ov_assign rfl) rfl rfl rfl ?_
        refine wl_nil ?_
        refine ce_then ?_
        refine cw_seq ?_
        refine cw_region ?_
        refine wl_v (ov_move rfl) rfl rfl rfl ?_
        refine wl_v (ov_len (sliceI_spec sI27) rfl) rfl rfl rfl ?_
        refine wl_v (ov_move rfl) rfl rfl rfl ?_
        refine wl_nil ?_
        refine ce_then ?_
        refine cw_block ?_
        refine cw_loop1 (fun (k : Nat) => [(2, .slice none (0) (0)), (3, .slice none (0) (0)), (4, .slice (some ⟨g15, 0, none⟩) (xss.length) (xss.length)), (5, .slice (some ⟨g20, 0, none⟩) ((xss.getD 0 []).length) ((xss.getD 0 []).length)), (6, .int .i64 (((i : Nat) : Int))), (21, .slice A (xss.length) (c)), (22, .int .i64 (((xss.length : Nat) : Int))), (23, .int .i64 (((i : Nat) : Int))), (28, .slice ((hs.getD i (none, 0, 0)).1) ((xss.getD i []).length) ((hs.getD i (none, 0, 0)).2.2)), (29, .int .i64 ((((xss.getD i []).length : Nat) : Int))), (30, .int .i64 (((k : Nat) : Int)))]) (fun (k : Nat) => [row 3 1 (some ⟨g20, 0, none⟩) ((xss.getD 0 []).length) ((xss.getD 0 []).length) (cells fI (accC xss i k)), row 3 1 (some ⟨g15, 0, none⟩) (xss.length) (xss.length) (cells fI (accR xss i k))]) (fun (k : Nat) => k ≤ (xss.getD i []).length) (fun (k : Nat) => (xss.getD i []).length - k) 0 (by omega) (.cons rfl (.cons rfl (.cons rfl (.cons rfl (.cons rfl (.cons rfl (.cons rfl (.cons rfl (.cons rfl (.cons rfl (.cons (congrArg (fun z => some (Value.int .i64 z)) (show 0 = ((0 : Nat) : Int) by first | omega | rfl | (simp; done))) (.nil)))))))))))) (.consE (show row 3 1 (some ⟨g20, 0, none⟩) ((xss.getD 0 []).length) ((xss.getD 0 []).length) (cells fI (accC xss i 0)) = row 3 1 (some ⟨g20, 0, none⟩) ((xss.getD 0 []).length) ((xss.getD 0 []).length) (cells fI (accC xss i 0)) by rfl) (.head) (.consE (show row 3 1 (some ⟨g15, 0, none⟩) (xss.length) (xss.length) (cells fI (accR xss i 0)) = row 3 1 (some ⟨g15, 0, none⟩) (xss.length) (xss.length) (cells fI (accR xss i 0)) by rfl) (.head) (.nil))) ?_
        intro R1 k hk1 hR1
        refine cw_seq ?_
        refine cw_region ?_
        refine wl_if (ov_lss rfl rfl) rfl rfl rfl (fun c31 => ?_) (fun c31 => ?_)
        ·
          refine wl_nil ?_
          refine ce_then ?_
          refine cw_seq ?_
          refine cw_true rfl ?_
          refine cw_skip ?_
          refine ce_then ?_
          refine cw_seq ?_
          refine cw_block ?_
          refine cw_seq ?_
          refine cw_region ?_
          refine wl_v (ov_move rfl) rfl rfl rfl ?_
          refine wl_v (ov_index (k := k) (c := (hs.getD i (none, 0, 0)).2.2) sI27 tI3 rfl rfl (some_holds (q := k * 1) (mx_at (mx_old omA) (show i < xss.length from (by omega))) (by rw [cells_length fI_len]; have hlt : k < (xss.getD i []).length := (by omega); omega)) (show k < (xss.getD i []).length from (by omega))) rfl rfl rfl ?_
          refine wl_v (ov_load tI3 (mx_at (mx_old omA) (show i < xss.length from (by omega))) rfl (get_fI (show k < (xss.getD i []).length from (by omega)))) rfl rfl rfl ?_
          have hx01 := hri.2.2 _ (getD_mem (xs := xss.getD i []) (k := k) 0 (by omega))
          have hb1 := total_bd01 (l := (xss.getD i []).take k) (fun x hx => hri.2.2 x (List.mem_of_mem_take hx))
          rw [List.length_take] at hb1
          have hb2 := col01 (rows := xss.take i) (fun r hr => (hM.2 r (List.mem_of_mem_take hr)).2.2) k
          rw [List.length_take] at hb2
          refine wl_v (ov_assign rfl) rfl rfl rfl ?_
          refine wl_v (ov_assign rfl) rfl rfl rfl ?_
          refine wl_nil ?_
          refine ce_then ?_
          refine cw_seq ?_
          refine cw_region ?_
          refine wl_v (ov_move rfl) rfl rfl rfl ?_
          refine wl_v (ov_move rfl) rfl rfl rfl ?_
          refine wl_v (ov_index (k := i) (c := xss.length) sI27 tI3 rfl rfl (some_holds (q := i * 1) (holds_row (List.Mem.tail _ (List.Mem.head _))) (by rw [cells_length fI_len]; have hlt : i < (accR xss i k).length := (by first | omega | (rw [accR_len]; omega)); omega)) (show i < xss.length from (by first | omega | (rw [accR_len]; omega)))) rfl rfl rfl ?_
          refine wl_v (ov_load tI3 (holds_row (List.Mem.tail _ (List.Mem.head _))) rfl ((get_fI (show i < (accR xss i k).length from (by first | omega | (rw [accR_len]; omega)))).trans (congrArg (fun z => some (Value.int .i64 z)) (show ((accR xss i k).getD i 0) = total ((xss.getD i []).take k) from (accR_get (by omega)))))) rfl rfl rfl ?_
          refine wl_v (ov_move rfl) rfl rfl rfl ?_
          refine wl_v (ov_add (r := (total ((xss.getD i []).take k)) + ((xss.getD i []).getD k 0)) rfl rfl rfl (by omega)) rfl rfl rfl ?_
          refine wl_v (ov_index (k := i) (c := xss.length) sI27 tI3 rfl rfl (some_holds (q := i * 1) (holds_row (List.Mem.tail _ (List.Mem.head _))) (by rw [cells_length fI_len]; have hlt : i < (accR xss i k).length := (by first | omega | (rw [accR_len]; omega)); omega)) (show i < xss.length from (by first | omega | (rw [accR_len]; omega)))) rfl rfl rfl ?_
          refine wl_r0 (or_store_row (vs := [.int .i64 ((total ((xss.getD i []).take k)) + ((xss.getD i []).getD k 0))]) (cs' := cells fI ((accR xss i k).set i ((total ((xss.getD i []).take k)) + ((xss.getD i []).getD k 0)))) (.tail .head) tI3 rfl rfl rfl rfl (by rw [cells_length fI_len]; have hlt := (show i < (accR xss i k).length from (by first | omega | (rw [accR_len]; omega))); simp only [List.length_cons, List.length_nil]; omega) (by simp) (cells_splice fI_len (show i < (accR xss i k).length from (by first | omega | (rw [accR_len]; omega))) ((total ((xss.getD i []).take k)) + ((xss.getD i []).getD k 0)))) rfl rfl (kn0 ?_)
          refine wl_nil ?_
          refine ce_then ?_
          refine cw_region ?_
          refine wl_v (ov_move rfl) rfl rfl rfl ?_
          refine wl_v (ov_move rfl) rfl rfl rfl ?_
          refine wl_v (ov_index (k := k) (c := (xss.getD 0 []).length) sI27 tI3 rfl rfl (some_holds (q := k * 1) (holds_row (List.Mem.tail _ (List.Mem.head _))) (by rw [cells_length fI_len]; have hlt : k < (accC xss i k).length := (by first | omega | (rw [accC_len]; omega)); omega)) (show k < (xss.getD 0 []).length from (by first | omega | (rw [accC_len]; omega)))) rfl rfl rfl ?_
          refine wl_v (ov_load tI3 (holds_row (List.Mem.tail _ (List.Mem.head _))) rfl ((get_fI (show k < (accC xss i k).length from (by first | omega | (rw [accC_len]; omega)))).trans (congrArg (fun z => some (Value.int .i64 z)) (show ((accC xss i k).getD k 0) = colAt (xss.take i) k from (accC_get (by omega)))))) rfl rfl rfl ?_
          refine wl_v (ov_move rfl) rfl rfl rfl ?_
          refine wl_v (ov_add (r := (colAt (xss.take i) k) + ((xss.getD i []).getD k 0)) rfl rfl rfl (by omega)) rfl rfl rfl ?_
          refine wl_v (ov_index (k := k) (c := (xss.getD 0 []).length) sI27 tI3 rfl rfl (some_holds (q := k * 1) (holds_row (List.Mem.tail _ (List.Mem.head _))) (by rw [cells_length fI_len]; have hlt : k < (accC xss i k).length := (by first | omega | (rw [accC_len]; omega)); omega)) (show k < (xss.getD 0 []).length from (by first | omega | (rw [accC_len]; omega)))) rfl rfl rfl ?_
          refine wl_r0 (or_store_row (vs := [.int .i64 ((colAt (xss.take i) k) + ((xss.getD i []).getD k 0))]) (cs' := cells fI ((accC xss i k).set k ((colAt (xss.take i) k) + ((xss.getD i []).getD k 0)))) (.tail .head) tI3 rfl rfl rfl rfl (by rw [cells_length fI_len]; have hlt := (show k < (accC xss i k).length from (by first | omega | (rw [accC_len]; omega))); simp only [List.length_cons, List.length_nil]; omega) (by simp) (cells_splice fI_len (show k < (accC xss i k).length from (by first | omega | (rw [accC_len]; omega))) ((colAt (xss.take i) k) + ((xss.getD i []).getD k 0)))) rfl rfl (kn0 ?_)
          refine wl_nil ?_
          refine ce_block ?_
          refine ce_then ?_
          refine cw_region ?_
          refine wl_v (ov_add (r := ((k + 1 : Nat) : Int)) rfl rfl rfl (by omega)) rfl rfl rfl ?_
          refine wl_v (ov_move rfl) rfl rfl rfl ?_
          refine wl_nil ?_
          exact fun ac_ w_ hs_ => hR1 (k + 1) (by omega) (by omega) ac_ w_ (hs_.weaken (.cons rfl (.cons rfl (.cons rfl (.cons rfl (.cons rfl (.cons rfl (.cons rfl (.cons rfl (.cons rfl (.cons rfl (.cons rfl (.nil)))))))))))) (.consE (show row 3 1 (some ⟨g20, 0, none⟩) ((xss.getD 0 []).length) ((xss.getD 0 []).length) (cells fI ((accC xss i k).set k ((colAt (xss.take i) k) + ((xss.getD i []).getD k 0)))) = row 3 1 (some ⟨g20, 0, none⟩) ((xss.getD 0 []).length) ((xss.getD 0 []).length) (cells fI (accC xss i (k + 1))) by rw [accC_step (by omega)]) (.head) (.consE (show row 3 1 (some ⟨g15, 0, none⟩) (xss.length) (xss.length) (cells fI ((accR xss i k).set i ((total ((xss.getD i []).take k)) + ((xss.getD i []).getD k 0)))) = row 3 1 (some ⟨g15, 0, none⟩) (xss.length) (xss.length) (cells fI (accR xss i (k + 1))) by rw [accR_step (by omega) (by omega)]) (.head) (.nil))))
        ·
          refine wl_nil ?_
          refine ce_then ?_
          refine cw_seq ?_
          refine cw_false rfl ?_
          refine cw_exit ?_
          refine ce_then_exit ?_
          refine ce_then_exit ?_
          refine ce_hit ?_
          refine ce_block ?_
          refine ce_then ?_
          refine cw_region ?_
          refine wl_v (ov_add (r := ((i + 1 : Nat) : Int)) rfl rfl rfl (by omega)) rfl rfl rfl ?_
          refine wl_v (ov_move rfl) rfl rfl rfl ?_
          refine wl_nil ?_
          exact fun ac_ w_ hs_ => hR0 (i + 1) (by omega) (by omega) ac_ w_ (hs_.weaken (.cons rfl (.cons rfl (.cons rfl (.cons rfl (.cons rfl (.cons rfl (.cons rfl (.nil)))))))) (.consE (show row 3 1 (some ⟨g20, 0, none⟩) ((xss.getD 0 []).length) ((xss.getD 0 []).length) (cells fI (accC xss i k)) = row 3 1 (some ⟨g20, 0, none⟩) ((xss.getD 0 []).length) ((xss.getD 0 []).length) (cells fI (accC xss (i + 1) 0)) by rw [accC_row (by omega) (by omega)]) (.head) (.consE (show row 3 1 (some ⟨g15, 0, none⟩) (xss.length) (xss.length) (cells fI (accR xss i k)) = row 3 1 (some ⟨g15, 0, none⟩) (xss.length) (xss.length) (cells fI (accR xss (i + 1) 0)) by rw [accR_row (by omega)]) (.head) (.nil))))
      ·
        refine wl_nil ?_
        refine ce_then ?_
        refine cw_seq ?_
        refine cw_false rfl ?_
        refine cw_exit ?_
        refine ce_then_exit ?_
        refine ce_then_exit ?_
        refine ce_hit ?_
        refine ce_then ?_
        refine cw_seq ?_
        refine cw_region ?_
        refine wl_v (ov_move rfl) rfl rfl rfl ?_
        refine wl_v (ov_move rfl) rfl rfl rfl ?_
        refine wl_v (ov_assign rfl) rfl rfl rfl ?_
        refine wl_v (ov_assign rfl) rfl rfl rfl ?_
        refine wl_nil ?_
        refine ce_then ?_
        refine cw_ret ?_
        refine ce_results (v := .tuple #[.slice (some ⟨g15, 0, none⟩) (xss.length) (xss.length), .slice (some ⟨g20, 0, none⟩) ((xss.getD 0 []).length) ((xss.getD 0 []).length)]) (res2 rfl (rv_t rfl) (rv_t rfl)) (fun w' hw => ?_)
        exact ⟨some ⟨g15, 0, none⟩, xss.length, some ⟨g20, 0, none⟩, (xss.getD 0 []).length, ⟨by rw [hl1]; omega, by rw [hl2]; omega⟩, (by rw [hl1, hl2, hcn]), ((.consE (show row 3 1 (some ⟨g15, 0, none⟩) (xss.length) (xss.length) (cells fI (accR xss i 0)) = row 3 1 (some ⟨g15, 0, none⟩) ((margV xss).1.length) (xss.length) (cells fI ((margV xss).1)) by rw [hl1, hv1, ← accR_end (m := xss) (i := i) (by omega)]) (.tail .head) (.consE (show row 3 1 (some ⟨g20, 0, none⟩) ((xss.getD 0 []).length) ((xss.getD 0 []).length) (cells fI (accC xss i 0)) = row 3 1 (some ⟨g20, 0, none⟩) ((margV xss).2.length) ((xss.getD 0 []).length) (cells fI ((margV xss).2)) by rw [hl2, hv2, ← accC_end (m := xss) (i := i) (by omega), hcn]) (.head) (.nil)) : Keep _ _).ss hw).to_new⟩
    ·
      refine go_r rfl rfl rfl rfl (or_makeSlice (m := (xss.getD 0 []).length) sI27 tI3 rfl rfl (made_fI _) (by omega) (show (xss.getD 0 []).length ≤ maxLen by simp only [maxLen]; omega)) (kt1 rfl (fun g20 => ?_))
      refine gk (.nil) ?_
      refine wg_one (i := 2) (by kernel_rfl) ?_
      refine go_r rfl rfl rfl rfl (or_makeSlice (m := xss.length) sI27 tI3 rfl rfl (made_fI _) (by omega) (show xss.length ≤ maxLen by simp only [maxLen]; omega)) (kt1 rfl (fun g15 => ?_))
      refine gk (.nil) ?_
      refine wg_takep (i := 8) rfl (ov_assign rfl) rfl rfl rfl (by kernel_rfl) (by kernel_rfl) (by kernel_rfl) rfl ?_
      refine wg_takep (i := 9) rfl (ov_assign rfl) rfl rfl rfl (by kernel_rfl) (by kernel_rfl) (by kernel_rfl) rfl ?_
      refine wg_done (by kernel_rfl) ?_
      refine ce_then ?_
      refine cw_seq ?_
      refine cw_seq ?_
      refine cw_region ?_
      refine wl_v (ov_move rfl) rfl rfl rfl ?_
      refine wl_v (ov_len (sliceI_spec sI50) rfl) rfl rfl rfl ?_
      refine wl_v (ov_move rfl) rfl rfl rfl ?_
      refine wl_nil ?_
      refine ce_then ?_
      refine cw_block ?_
      refine cw_loop1 (fun (i : Nat) => [(2, .slice none (0) (0)), (3, .slice none (0) (0)), (4, .slice (some ⟨g15, 0, none⟩) (xss.length) (xss.length)), (5, .slice (some ⟨g20, 0, none⟩) ((xss.getD 0 []).length) ((xss.getD 0 []).length)), (21, .slice A (xss.length) (c)), (22, .int .i64 (((xss.length : Nat) : Int))), (23, .int .i64 (((i : Nat) : Int)))]) (fun (i : Nat) => [row 3 1 (some ⟨g15, 0, none⟩) (xss.length) (xss.length) (cells fI (accR xss i 0)), row 3 1 (some ⟨g20, 0, none⟩) ((xss.getD 0 []).length) ((xss.getD 0 []).length) (cells fI (accC xss i 0))]) (fun (i : Nat) => i ≤ xss.length) (fun (i : Nat) => xss.length - i) 0 (by omega) (.cons rfl (.cons rfl (.cons rfl (.cons rfl (.cons rfl (.cons rfl (.cons (congrArg (fun z => some (Value.int .i64 z)) (show 0 = ((0 : Nat) : Int) by first | omega | rfl | (simp; done))) (.nil)))))))) (.consE (show row 3 1 (some ⟨g15, 0, none⟩) (xss.length) (xss.length) (cells fI (List.replicate xss.length 0)) = row 3 1 (some ⟨g15, 0, none⟩) (xss.length) (xss.length) (cells fI (accR xss 0 0)) by rw [accR_zero]) (.head) (.consE (show row 3 1 (some ⟨g20, 0, none⟩) ((xss.getD 0 []).length) ((xss.getD 0 []).length) (cells fI (List.replicate ((xss.getD 0 []).length) 0)) = row 3 1 (some ⟨g20, 0, none⟩) ((xss.getD 0 []).length) ((xss.getD 0 []).length) (cells fI (accC xss 0 0)) by rw [accC_zero, hcn]) (.head) (.nil))) ?_
      intro R0 i hk hR0
      refine cw_seq ?_
      refine cw_region ?_
      refine wl_if (ov_lss rfl rfl) rfl rfl rfl (fun c24 => ?_) (fun c24 => ?_)
      ·
        refine wl_nil ?_
        refine ce_then ?_
        refine cw_seq ?_
        refine cw_true rfl ?_
        refine cw_skip ?_
        refine ce_then ?_
        refine cw_seq ?_
        refine cw_block ?_
        refine cw_seq ?_
        refine cw_region ?_
        refine wl_v (ov_move rfl) rfl rfl rfl ?_
        refine wl_v (ov_index (k := i) (c := c) sI50 tI27 rfl rfl (some_holds (q := i * 1) (holds_old oA) (by rw [cells_length fL_len]; have hlt : i < hs.length := (by omega); omega)) (show i < xss.length from (by omega))) rfl rfl rfl ?_
        refine wl_v (ov_load tI27 (holds_old oA) rfl (get_fLn fA (show i < xss.length from (by omega)))) rfl rfl rfl ?_
        have hri := hM.2 _ (getD_mem (xs := xss) (k := i) [] (by omega))
        refine wl_v (ov_assign rfl) rfl rfl rfl ?_
        refine wl_v (ov_assign rfl) rfl rfl rfl ?_
        refine wl_nil ?_
        refine ce_then ?_
        refine cw_seq ?_
        refine cw_region ?_
        refine wl_v (ov_move rfl) rfl rfl rfl ?_
        refine wl_v (ov_len (sliceI_spec sI27) rfl) rfl rfl rfl ?_
        refine wl_v (ov_move rfl) rfl rfl rfl ?_
        refine wl_nil ?_
        refine ce_then ?_
        refine cw_block ?_
        refine cw_loop1 (fun (k : Nat) => [(2, .slice none (0) (0)), (3, .slice none (0) (0)), (4, .slice (some ⟨g15, 0, none⟩) (xss.length) (xss.length)), (5, .slice (some ⟨g20, 0, none⟩) ((xss.getD 0 []).length) ((xss.getD 0 []).length)), (6, .int .i64 (((i : Nat) : Int))), (21, .slice A (xss.length) (c)), (22, .int .i64 (((xss.length : Nat) : Int))), (23, .int .i64 (((i : Nat) : Int))), (28, .slice ((hs.getD i (none, 0, 0)).1) ((xss.getD i []).length) ((hs.getD i (none, 0, 0)).2.2)), (29, .int .i64 ((((xss.getD i []).length : Nat) : Int))), (30, .int .i64 (((k : Nat) : Int)))]) (fun (k : Nat) => [row 3 1 (some ⟨g15, 0, none⟩) (xss.length) (xss.length) (cells fI (accR xss i k)), row 3 1 (some ⟨g20, 0, none⟩) ((xss.getD 0 []).length) ((xss.getD 0 []).length) (cells fI (accC xss i k))]) (fun (k : Nat) => k ≤ (xss.getD i []).length) (fun (k : Nat) => (xss.getD i []).length - k) 0 (by omega) (.cons rfl (.cons rfl (.cons rfl (.cons rfl (.cons rfl (.cons rfl (.cons rfl (.cons rfl (.cons rfl (.cons rfl (.cons (congrArg (fun z => some (Value.int .i64 z)) (show 0 = ((0 : Nat) : Int) by first | omega | rfl | (simp; done))) (.nil)))))))))))) (.consE (show row 3 1 (some ⟨g15, 0, none⟩) (xss.length) (xss.length) (cells fI (accR xss i 0)) = row 3 1 (some ⟨g15, 0, none⟩) (xss.length) (xss.length) (cells fI (accR xss i 0)) by rfl) (.head) (.consE (show row 3 1 (some ⟨g20, 0, none⟩) ((xss.getD 0 []).length) ((xss.getD 0 []).length) (cells fI (accC xss i 0)) = row 3 1 (some ⟨g20, 0, none⟩) ((xss.getD 0 []).length) ((xss.getD 0 []).length) (cells fI (accC xss i 0)) by rfl) (.head) (.nil))) ?_
        intro R1 k hk1 hR1
        refine cw_seq ?_
        refine cw_region ?_
        refine wl_if (ov_lss rfl rfl) rfl rfl rfl (fun c31 => ?_) (fun c31 => ?_)
        ·
          refine wl_nil ?_
          refine ce_then ?_
          refine cw_seq ?_
          refine cw_true rfl ?_
          refine cw_skip ?_
          refine ce_then ?_
          refine cw_seq ?_
          refine cw_block ?_
          refine cw_seq ?_
          refine cw_region ?_
          refine wl_v (ov_move rfl) rfl rfl rfl ?_
          refine wl_v (ov_index (k := k) (c := (hs.getD i (none, 0, 0)).2.2) sI27 tI3 rfl rfl (some_holds (q := k * 1) (mx_at (mx_old omA) (show i < xss.length from (by omega))) (by rw [cells_length fI_len]; have hlt : k < (xss.getD i []).length := (by omega); omega)) (show k < (xss.getD i []).length from (by omega))) rfl rfl rfl ?_
          refine wl_v (ov_load tI3 (mx_at (mx_old omA) (show i < xss.length from (by omega))) rfl (get_fI (show k < (xss.getD i []).length from (by omega)))) rfl rfl rfl ?_
          have hx01 := hri.2.2 _ (getD_mem (xs := xss.getD i []) (k := k) 0 (by omega))
          have hb1 := total_bd01 (l := (xss.getD i []).take k) (fun x hx => hri.2.2 x (List.mem_of_mem_take hx))
          rw [List.length_take] at hb1
          have hb2 := col01 (rows := xss.take i) (fun r hr => (hM.2 r (List.mem_of_mem_take hr)).2.2) k
          rw [List.length_take] at hb2
          refine wl_v (ov_assign rfl) rfl rfl rfl ?_
          refine wl_v (ov_assign rfl) rfl rfl rfl ?_
          refine wl_nil ?_
          refine ce_then ?_
          refine cw_seq ?_
          refine cw_region ?_
          refine wl_v (ov_move rfl) rfl rfl rfl ?_
          refine wl_v (ov_move rfl) rfl rfl rfl ?_
          refine wl_v (ov_index (k := i) (c := xss.length) sI27 tI3 rfl rfl (some_holds (q := i * 1) (holds_row (List.Mem.head _)) (by rw [cells_length fI_len]; have hlt : i < (accR xss i k).length := (by first | omega | (rw [accR_len]; omega)); omega)) (show i < xss.length from (by first | omega | (rw [accR_len]; omega)))) rfl rfl rfl ?_
          refine wl_v (ov_load tI3 (holds_row (List.Mem.head _)) rfl ((get_fI (show i < (accR xss i k).length from (by first | omega | (rw [accR_len]; omega)))).trans (congrArg (fun z => some (Value.int .i64 z)) (show ((accR xss i k).getD i 0) = total ((xss.getD i []).take k) from (accR_get (by omega)))))) rfl rfl rfl ?_
          refine wl_v (ov_move rfl) rfl rfl rfl ?_
          refine wl_v (ov_add (r := (total ((xss.getD i []).take k)) + ((xss.getD i []).getD k 0)) rfl rfl rfl (by omega)) rfl rfl rfl ?_
          refine wl_v (ov_index (k := i) (c := xss.length) sI27 tI3 rfl rfl (some_holds (q := i * 1) (holds_row (List.Mem.head _)) (by rw [cells_length fI_len]; have hlt : i < (accR xss i k).length := (by first | omega | (rw [accR_len]; omega)); omega)) (show i < xss.length from (by first | omega | (rw [accR_len]; omega)))) rfl rfl rfl ?_
          refine wl_r0 (or_store_row (vs := [.int .i64 ((total ((xss.getD i []).take k)) + ((xss.getD i []).getD k 0))]) (cs' := cells fI ((accR xss i k).set i ((total ((xss.getD i []).take k)) + ((xss.getD i []).getD k 0)))) (.head) tI3 rfl rfl rfl rfl (by rw [cells_length fI_len]; have hlt := (show i < (accR xss i k).length from (by first | omega | (rw [accR_len]; omega))); simp only [List.length_cons, List.length_nil]; omega) (by simp) (cells_splice fI_len (show i < (accR xss i k).length from (by first | omega | (rw [accR_len]; omega))) ((total ((xss.getD i []).take k)) + ((xss.getD i []).getD k 0)))) rfl rfl (kn0 ?_)
          refine wl_nil ?_
          refine ce_then ?_
          refine cw_region ?_
          refine wl_v (ov_move rfl) rfl rfl rfl ?_
          refine wl_v (ov_move rfl) rfl rfl rfl ?_
          refine wl_v (ov_index (k := k) (c := (xss.getD 0 []).length) sI27 tI3 rfl rfl (some_holds (q := k * 1) (holds_row (List.Mem.tail _ (List.Mem.head _))) (by rw [cells_length fI_len]; have hlt : k < (accC xss i k).length := (by first | omega | (rw [accC_len]; omega)); omega)) (show k < (xss.getD 0 []).length from (by first | omega | (rw [accC_len]; omega)))) rfl rfl rfl ?_
          refine wl_v (ov_load tI3 (holds_row (List.Mem.tail _ (List.Mem.head _))) rfl ((get_fI (show k < (accC xss i k).length from (by first | omega | (rw [accC_len]; omega)))).trans (congrArg (fun z => some (Value.int .i64 z)) (show ((accC xss i k).getD k 0) = colAt (xss.take i) k from (accC_get (by omega)))))) rfl rfl rfl ?_
          refine wl_v (ov_move rfl) rfl rfl rfl ?_
          refine wl_v (ov_add (r := (colAt (xss.take i) k) + ((xss.getD i []).getD k 0)) rfl rfl rfl (by omega)) rfl rfl rfl ?_
          refine wl_v (ov_index (k := k) (c := (xss.getD 0 []).length) sI27 tI3 rfl rfl (some_holds (q := k * 1) (holds_row (List.Mem.tail _ (List.Mem.head _))) (by rw [cells_length fI_len]; have hlt : k < (accC xss i k).length := (by first | omega | (rw [accC_len]; omega)); omega)) (show k < (xss.getD 0 []).length from (by first | omega | (rw [accC_len]; omega)))) rfl rfl rfl ?_
          refine wl_r0 (or_store_row (vs := [.int .i64 ((colAt (xss.take i) k) + ((xss.getD i []).getD k 0))]) (cs' := cells fI ((accC xss i k).set k ((colAt (xss.take i) k) + ((xss.getD i []).getD k 0)))) (.tail .head) tI3 rfl rfl rfl rfl (by rw [cells_length fI_len]; have hlt := (show k < (accC xss i k).length from (by first | omega | (rw [accC_len]; omega))); simp only [List.length_cons, List.length_nil]; omega) (by simp) (cells_splice fI_len (show k < (accC xss i k).length from (by first | omega | (rw [accC_len]; omega))) ((colAt (xss.take i) k) + ((xss.getD i []).getD k 0)))) rfl rfl (kn0 ?_)
          refine wl_nil ?_
          refine ce_block ?_
          refine ce_then ?_
          refine cw_region ?_
          refine wl_v (ov_add (r := ((k + 1 : Nat) : Int)) rfl rfl rfl (by omega)) rfl rfl rfl ?_
          refine wl_v (ov_move rfl) rfl rfl rfl ?_
          refine wl_nil ?_
          exact fun ac_ w_ hs_ => hR1 (k + 1) (by omega) (by omega) ac_ w_ (hs_.weaken (.cons rfl (.cons rfl (.cons rfl (.cons rfl (.cons rfl (.cons rfl (.cons rfl (.cons rfl (.cons rfl (.cons rfl (.cons rfl (.nil)))))))))))) (.consE (show row 3 1 (some ⟨g15, 0, none⟩) (xss.length) (xss.length) (cells fI ((accR xss i k).set i ((total ((xss.getD i []).take k)) + ((xss.getD i []).getD k 0)))) = row 3 1 (some ⟨g15, 0, none⟩) (xss.length) (xss.length) (cells fI (accR xss i (k + 1))) by rw [accR_step (by omega) (by omega)]) (.tail .head) (.consE (show row 3 1 (some ⟨g20, 0, none⟩) ((xss.getD 0 []).length) ((xss.getD 0 []).length) (cells fI ((accC xss i k).set k ((colAt (xss.take i) k) + ((xss.getD i []).getD k 0)))) = row 3 1 (some ⟨g20, 0, none⟩) ((xss.getD 0 []).length) ((xss.getD 0 []).length) (cells fI (accC xss i (k + 1))) by rw [accC_step (by omega)]) (.head) (.nil))))
        ·
          refine wl_nil ?_
          refine ce_then ?_
          refine cw_seq ?_
          refine cw_false rfl ?_
          refine cw_exit ?_
          refine ce_then_exit ?_
          refine ce_then_exit ?_
          refine ce_hit ?_
          refine ce_block ?_
          refine ce_then ?_
          refine cw_region ?_
          refine wl_v (ov_add (r := ((i + 1 : Nat) : Int)) rfl rfl rfl (by omega)) rfl rfl rfl ?_
          refine wl_v (ov_move rfl) rfl rfl rfl ?_
          refine wl_nil ?_
          exact fun ac_ w_ hs_ => hR0 (i + 1) (by omega) (by omega) ac_ w_ (hs_.weaken (.cons rfl (.cons rfl (.cons rfl (.cons rfl (.cons rfl (.cons rfl (.cons rfl (.nil)))))))) (.consE (show row 3 1 (some ⟨g15, 0, none⟩) (xss.length) (xss.length) (cells fI (accR xss i k)) = row 3 1 (some ⟨g15, 0, none⟩) (xss.length) (xss.length) (cells fI (accR xss (i + 1) 0)) by rw [accR_row (by omega)]) (.head) (.consE (show row 3 1 (some ⟨g20, 0, none⟩) ((xss.getD 0 []).length) ((xss.getD 0 []).length) (cells fI (accC xss i k)) = row 3 1 (some ⟨g20, 0, none⟩) ((xss.getD 0 []).length) ((xss.getD 0 []).length) (cells fI (accC xss (i + 1) 0)) by rw [accC_row (by omega) (by omega)]) (.head) (.nil))))
      ·
        refine wl_nil ?_
        refine ce_then ?_
        refine cw_seq ?_
        refine cw_false rfl ?_
        refine cw_exit ?_
        refine ce_then_exit ?_
        refine ce_then_exit ?_
        refine ce_hit ?_
        refine ce_then ?_
        refine cw_seq ?_
        refine cw_region ?_
        refine wl_v (ov_move rfl) rfl rfl rfl ?_
        refine wl_v (ov_move rfl) rfl rfl rfl ?_
        refine wl_v (ov_assign rfl) rfl rfl rfl ?_
        refine wl_v (ov_assign rfl) rfl rfl rfl ?_
        refine wl_nil ?_
        refine ce_then ?_
        refine cw_ret ?_
        refine ce_results (v := .tuple #[.slice (some ⟨g15, 0, none⟩) (xss.length) (xss.length), .slice (some ⟨g20, 0, none⟩) ((xss.getD 0 []).length) ((xss.getD 0 []).length)]) (res2 rfl (rv_t rfl) (rv_t rfl)) (fun w' hw => ?_)
        exact ⟨some ⟨g15, 0, none⟩, xss.length, some ⟨g20, 0, none⟩, (xss.getD 0 []).length, ⟨by rw [hl1]; omega, by rw [hl2]; omega⟩, (by rw [hl1, hl2, hcn]), ((.consE (show row 3 1 (some ⟨g15, 0, none⟩) (xss.length) (xss.length) (cells fI (accR xss i 0)) = row 3 1 (some ⟨g15, 0, none⟩) ((margV xss).1.length) (xss.length) (cells fI ((margV xss).1)) by rw [hl1, hv1, ← accR_end (m := xss) (i := i) (by omega)]) (.head) (.consE (show row 3 1 (some ⟨g20, 0, none⟩) ((xss.getD 0 []).length) ((xss.getD 0 []).length) (cells fI (accC xss i 0)) = row 3 1 (some ⟨g20, 0, none⟩) ((margV xss).2.length) ((xss.getD 0 []).length) (cells fI ((margV xss).2)) by rw [hl2, hv2, ← accC_end (m := xss) (i := i) (by omega), hcn]) (.head) (.nil)) : Keep _ _).ss hw).to_new⟩
  ·
    refine wl_v (ov_not rfl) rfl rfl rfl ?_
    refine wl_nil ?_
    refine ce_then ?_
    refine cw_true rfl ?_
    refine cw_seq ?_
    have hv : margV xss = ([], []) := if_neg c11
    refine ct_none fI 3 1 ?_
    refine ct_none fI 3 1 ?_
    refine cw_region ?_
    refine wl_v (ov_assign rfl) rfl rfl rfl ?_
    refine wl_v (ov_assign rfl) rfl rfl rfl ?_
    refine wl_nil ?_
    refine ce_then ?_
    refine cw_ret ?_
    refine ce_then_ret ?_
    refine ce_results (v := .tuple #[.slice none (0) (0), .slice none (0) (0)]) (res2 rfl (rv_t rfl) (rv_t rfl)) (fun w' hw => ?_)
    exact ⟨none, 0, none, 0, (by rw [hv]; exact ⟨Nat.le_refl _, Nat.le_refl _⟩), (by rw [hv] <;> rfl), ((.consE (show row 3 1 none (0) (0) (cells fI ([])) = row 3 1 none ((margV xss).1.length) (0) (cells fI ((margV xss).1)) by rw [hv] <;> rfl) (.tail .head) (.consE (show row 3 1 none (0) (0) (cells fI ([])) = row 3 1 none ((margV xss).2.length) (0) (cells fI ((margV xss).2)) by rw [hv] <;> rfl) (.head) (.nil)) : Keep _ _).ss hw).to_new⟩
end Go.Proofs.Ythbfgkeoojghoaa.W34
