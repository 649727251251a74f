/- Walks of functions of the given program: each returns what its Lean function says and leaves the memory that was there as it was. Conditions: those of each theorem. -/
import Derived.Test.YthbfgkeoojghoaaSm
import Derived.Test.YthbfgkeoojghoaaProg
import Derived.Test.YthbfgkeoojghoaaPl
import Derived.Test.YthbfgkeoojghoaaPo
import Derived.Test.YthbfgkeoojghoaaPd
import Derived.Test.YthbfgkeoojghoaaPe
import Derived.Test.YthbfgkeoojghoaaPh
import Derived.Test.YthbfgkeoojghoaaPm
import Derived.Test.YthbfgkeoojghoaaPc
import Derived.Test.YthbfgkeoojghoaaPs
import Derived.Test.YthbfgkeoojghoaaPt
import Derived.Test.YthbfgkeoojghoaaPu
import Derived.Test.YthbfgkeoojghoaaPv
import Derived.Test.YthbfgkeoojghoaaPw
import Derived.Test.YthbfgkeoojghoaaSo
import Derived.Test.YthbfgkeoojghoaaSh
import Derived.Test.YthbfgkeoojghoaaT
import Derived.Test.YthbfgkeoojghoaaW1
import Derived.Test.YthbfgkeoojghoaaW34
import Derived.KernelRfl
namespace Go.Proofs.Ythbfgkeoojghoaa.W35
open Go.Sx Go.RowKit Go.Proofs.Ythbfgkeoojghoaa.T Go.Proofs.Ythbfgkeoojghoaa.W1 Go.Proofs.Ythbfgkeoojghoaa.W34
open Go.Plain
set_option linter.unusedVariables false
set_option maxRecDepth 100000 in
theorem ValidTI_c (w : World) (A : Option Addr) (n : Nat) (c : Nat) (hs : List Hd) (xss : List (List Int)) (hA : At w A (cells fL hs)) (eA : xss.length = n) (lA : n ≤ c) (fA : NestF hs xss) (mA : Mx w hs xss) (hsz : xss.length ≤ 1048576 ∧ ∀ r ∈ xss, r.length ≤ 1048576) : Calls Try.prog 88 #[.slice A (n) (c)] w (Ret fun rv w' => rv = .bool (decide (TourP xss)) ∧ New w w' []) := by
  have oA := hA.atB
  subst eA
  have flA := fA.1
  have omA := Mx.atB mA
  have hcn : colsN xss = (xss.getD 0 []).length := rfl
  refine fn_enter (args := [.slice A (xss.length) (c)]) Try.func88 rfl Try.ntmps88 rfl (SS.start w) ?_
  refine cw_seq ?_
  refine cw_region ?_
  refine wl_v (ov_assign rfl) rfl rfl rfl ?_
  refine wl_nil ?_
  refine ce_then ?_
  refine cw_seq ?_
  refine cw_seq ?_
  refine cw_region ?_
  refine wl_v (ov_move rfl) rfl rfl rfl ?_
  refine wl_r (or_call (fv := []) (vs := [.slice A (xss.length) (c)]) (cs := []) en124 rfl rfl (call_v (fun w hw => ValidMatI_c w A xss.length c hs xss ((holds_old oA) w hw) rfl lA fA ((mx_old omA) w hw) (by first | assumption | omega | (simp; omega))))) rfl rfl (kt_if rfl (fun c6 => ?_) (fun c6 => ?_))
  ·
    have hM := c6
    have hM1 := hM.1
    have hM2 := hM.2
    refine wl_v (ov_not rfl) rfl rfl rfl ?_
    refine wl_v (ov_move rfl) rfl rfl rfl ?_
    refine wl_go rfl rfl ?_
    refine wl_v (ov_move rfl) rfl rfl rfl ?_
    refine wl_go rfl rfl ?_
    refine wl_v (ov_len (sliceI_spec sI50) rfl) rfl rfl rfl ?_
    refine wl_go rfl rfl ?_
    refine wl_v (ov_move rfl) rfl rfl rfl ?_
    refine wl_go rfl rfl ?_
    refine wl_v (ov_index (k := 0) (c := c) sI50 tI27 rfl rfl (some_holds (q := 0 * 1) (holds_old oA) (by rw [cells_length fL_len]; have hlt : 0 < hs.length := (by omega); omega)) (show 0 < xss.length from (by omega))) rfl rfl rfl ?_
    refine wl_go rfl rfl ?_
    refine wl_v (ov_load tI27 (holds_old oA) rfl (get_fLn fA (show 0 < xss.length from (by omega)))) rfl rfl rfl ?_
    refine wl_go rfl rfl ?_
    refine wl_v (ov_len (sliceI_spec sI27) rfl) rfl rfl rfl ?_
    refine wl_go rfl rfl ?_
    refine wl_if (ov_neq rfl rfl) rfl rfl rfl (fun c15 => ?_) (fun c15 => ?_)
    ·
      refine wl_v (ov_pick_f rfl rfl) rfl rfl rfl ?_
      refine wl_nil ?_
      refine ce_then ?_
      refine cw_true rfl ?_
      refine cw_seq ?_
      refine cw_region ?_
      refine wl_v (ov_assign rfl) rfl rfl rfl ?_
      refine wl_nil ?_
      refine ce_then ?_
      refine cw_ret ?_
      refine ce_then_ret ?_
      refine ce_results (v := .bool false) (res1 rfl (rv_t rfl)) (fun w' hw => ?_)
      exact ⟨(bf (fun h => c15 (by have := (tour_mat.1 h).2.1; omega))), (Keep.nil.ss hw).to_new⟩
    ·
      refine wl_v (ov_pick_f rfl rfl) rfl rfl rfl ?_
      refine wl_nil ?_
      refine ce_then ?_
      refine cw_false rfl ?_
      refine cw_skip ?_
      refine ce_then ?_
      refine cw_seq ?_
      refine cw_seq ?_
      refine cw_region ?_
      refine wl_v (ov_move rfl) rfl rfl rfl ?_
      refine wl_v (ov_len (sliceI_spec sI50) rfl) rfl rfl rfl ?_
      refine wl_v (ov_move rfl) rfl rfl rfl ?_
      refine wl_nil ?_
      refine ce_then ?_
      refine cw_block ?_
      refine cw_loop1 (fun (i : Nat) => [(0, .slice A (xss.length) (c)), (18, .int .i64 (((xss.length : Nat) : Int))), (19, .int .i64 (((i : Nat) : Int)))]) (fun (i : Nat) => []) (fun (i : Nat) => i ≤ xss.length ∧ ∀ a, a < i → ∀ b, b < xss.length → PairP xss a b) (fun (i : Nat) => xss.length - i) 0 ⟨by omega, fun a ha => absurd ha (Nat.not_lt_zero _)⟩ (.cons rfl (.cons rfl (.cons (congrArg (fun z => some (Value.int .i64 z)) (show 0 = ((0 : Nat) : Int) by first | omega | rfl | (simp; done))) (.nil)))) (.nil) ?_
      intro R0 i hk hR0
      obtain ⟨hk1, hk2⟩ := hk
      refine cw_seq ?_
      refine cw_region ?_
      refine wl_if (ov_lss rfl rfl) rfl rfl rfl (fun c20 => ?_) (fun c20 => ?_)
      ·
        refine wl_nil ?_
        refine ce_then ?_
        refine cw_seq ?_
        refine cw_true rfl ?_
        refine cw_skip ?_
        refine ce_then ?_
        refine cw_seq ?_
        refine cw_block ?_
        refine cw_seq ?_
        refine cw_region ?_
        refine wl_v (ov_move rfl) rfl rfl rfl ?_
        refine wl_v (ov_assign rfl) rfl rfl rfl ?_
        refine wl_nil ?_
        refine ce_then ?_
        refine cw_seq ?_
        refine cw_region ?_
        refine wl_v (ov_move rfl) rfl rfl rfl ?_
        refine wl_v (ov_len (sliceI_spec sI50) rfl) rfl rfl rfl ?_
        refine wl_v (ov_move rfl) rfl rfl rfl ?_
        refine wl_nil ?_
        refine ce_then ?_
        refine cw_block ?_
        refine cw_loop1 (fun (k : Nat) => [(0, .slice A (xss.length) (c)), (3, .int .i64 (((i : Nat) : Int))), (18, .int .i64 (((xss.length : Nat) : Int))), (19, .int .i64 (((i : Nat) : Int))), (23, .int .i64 (((xss.length : Nat) : Int))), (24, .int .i64 (((k : Nat) : Int)))]) (fun (k : Nat) => []) (fun (k : Nat) => k ≤ xss.length ∧ ∀ b, b < k → PairP xss i b) (fun (k : Nat) => xss.length - k) 0 ⟨by omega, fun a ha => absurd ha (Nat.not_lt_zero _)⟩ (.cons rfl (.cons rfl (.cons rfl (.cons rfl (.cons rfl (.cons (congrArg (fun z => some (Value.int .i64 z)) (show 0 = ((0 : Nat) : Int) by first | omega | rfl | (simp; done))) (.nil))))))) (.nil) ?_
        intro R1 k hk1 hR1
        obtain ⟨hj1, hj2⟩ := hk1
        refine cw_seq ?_
        refine cw_region ?_
        refine wl_if (ov_lss rfl rfl) rfl rfl rfl (fun c25 => ?_) (fun c25 => ?_)
        ·
          refine wl_nil ?_
          refine ce_then ?_
          refine cw_seq ?_
          refine cw_true rfl ?_
          refine cw_skip ?_
          refine ce_then ?_
          refine cw_seq ?_
          refine cw_block ?_
          refine cw_seq ?_
          refine cw_region ?_
          refine wl_v (ov_move rfl) rfl rfl rfl ?_
          refine wl_v (ov_assign rfl) rfl rfl rfl ?_
          refine wl_nil ?_
          refine ce_then ?_
          refine cw_seq ?_
          refine cw_draw mixO [] (.nil) rfl ?_
          have he1 : ent xss i k = (xss.getD i []).getD k 0 := rfl
          have he2 : ent xss k i = (xss.getD k []).getD i 0 := rfl
          have hli := (hM2 _ (getD_mem (xs := xss) (k := i) [] (by omega))).1
          have hlk := (hM2 _ (getD_mem (xs := xss) (k := k) [] (by omega))).1
          have hx1 := (hM2 _ (getD_mem (xs := xss) (k := i) [] (by omega))).2.2 _ (getD_mem (xs := xss.getD i []) (k := k) 0 (by omega))
          have hx2 := (hM2 _ (getD_mem (xs := xss) (k := k) [] (by omega))).2.2 _ (getD_mem (xs := xss.getD k []) (k := i) 0 (by omega))
          refine wg_takep (i := 0) rfl (ov_move rfl) rfl rfl rfl (by kernel_rfl) (by kernel_rfl) (by kernel_rfl) rfl ?_
          refine wg_takep (i := 1) rfl (ov_move rfl) rfl rfl rfl (by kernel_rfl) (by kernel_rfl) (by kernel_rfl) rfl ?_
          refine wg_takep_if (i := 2) rfl (ov_eql rfl rfl) rfl rfl rfl (by kernel_rfl) (by kernel_rfl) (by kernel_rfl) rfl (fun c29 => ?_) (fun c29 => ?_)
          ·
            refine wg_takep (i := 3) rfl (ov_move rfl) rfl rfl rfl (by kernel_rfl) (by kernel_rfl) (by kernel_rfl) rfl ?_
            refine wg_take_go (i := 4) rfl rfl rfl (ov_move rfl) rfl (by kernel_rfl) (by kernel_rfl) (by kernel_rfl) (by kernel_rfl) ?_
            refine wg_take_go (i := 5) rfl rfl rfl (ov_move rfl) rfl (by kernel_rfl) (by kernel_rfl) (by kernel_rfl) (by kernel_rfl) ?_
            refine wg_take_go (i := 6) rfl rfl rfl (ov_index (k := i) (c := c) sI50 tI27 rfl rfl (some_holds (q := i * 1) (holds_old oA) (by rw [cells_length fL_len]; have hlt : i < hs.length := (by omega); omega)) (show i < xss.length from (by omega))) rfl (by kernel_rfl) (by kernel_rfl) (by kernel_rfl) (by kernel_rfl) ?_
            refine wg_take_go (i := 7) rfl rfl rfl (ov_load tI27 (holds_old oA) rfl (get_fLn fA (show i < xss.length from (by omega)))) rfl (by kernel_rfl) (by kernel_rfl) (by kernel_rfl) (by kernel_rfl) ?_
            refine wg_take_go (i := 8) rfl rfl rfl (ov_move rfl) rfl (by kernel_rfl) (by kernel_rfl) (by kernel_rfl) (by kernel_rfl) ?_
            refine wg_take_go (i := 9) rfl rfl rfl (ov_index (k := i) (c := (hs.getD i (none, 0, 0)).2.2) sI27 tI3 rfl rfl (some_holds (q := i * 1) (mx_at (mx_old omA) (show i < xss.length from (by omega))) (by rw [cells_length fI_len]; have hlt : i < (xss.getD i []).length := (by omega); omega)) (show i < (xss.getD i []).length from (by omega))) rfl (by kernel_rfl) (by kernel_rfl) (by kernel_rfl) (by kernel_rfl) ?_
            refine wg_take_go (i := 10) rfl rfl rfl (ov_load tI3 (mx_at (mx_old omA) (show i < xss.length from (by omega))) rfl (get_fI (show i < (xss.getD i []).length from (by omega)))) rfl (by kernel_rfl) (by kernel_rfl) (by kernel_rfl) (by kernel_rfl) ?_
            refine wg_take_go_if (i := 11) rfl rfl rfl (ov_neq rfl rfl) rfl (by kernel_rfl) (by kernel_rfl) (by kernel_rfl) (by kernel_rfl) (fun c38 => ?_) (fun c38 => ?_)
            ·
              refine wg_takep (i := 12) rfl (ov_pick_t rfl rfl) rfl rfl rfl (by kernel_rfl) (by kernel_rfl) (by kernel_rfl) rfl ?_
              refine wg_takep (i := 13) rfl (ov_move rfl) rfl rfl rfl (by kernel_rfl) (by kernel_rfl) (by kernel_rfl) rfl ?_
              refine wg_take_not (i := 14) rfl rfl rfl rfl rfl (by kernel_rfl) (by kernel_rfl) (by kernel_rfl) (by kernel_rfl) ?_
              refine wg_take_not (i := 15) rfl rfl rfl rfl rfl (by kernel_rfl) (by kernel_rfl) (by kernel_rfl) (by kernel_rfl) ?_
              refine wg_take_not (i := 16) rfl rfl rfl rfl rfl (by kernel_rfl) (by kernel_rfl) (by kernel_rfl) (by kernel_rfl) ?_
              refine wg_take_not (i := 17) rfl rfl rfl rfl rfl (by kernel_rfl) (by kernel_rfl) (by kernel_rfl) (by kernel_rfl) ?_
              refine wg_take_notu (i := 18) rfl rfl rfl rfl (by kernel_rfl) (by kernel_rfl) (by kernel_rfl) (by kernel_rfl) ?_
              refine wg_take_notu (i := 19) rfl rfl rfl rfl (by kernel_rfl) (by kernel_rfl) (by kernel_rfl) (by kernel_rfl) ?_
              refine wg_take_notu (i := 20) rfl rfl rfl rfl (by kernel_rfl) (by kernel_rfl) (by kernel_rfl) (by kernel_rfl) ?_
              refine wg_take_notu (i := 21) rfl rfl rfl rfl (by kernel_rfl) (by kernel_rfl) (by kernel_rfl) (by kernel_rfl) ?_
              refine wg_take_notu (i := 22) rfl rfl rfl rfl (by kernel_rfl) (by kernel_rfl) (by kernel_rfl) (by kernel_rfl) ?_
              refine wg_take_notu (i := 23) rfl rfl rfl rfl (by kernel_rfl) (by kernel_rfl) (by kernel_rfl) (by kernel_rfl) ?_
              refine wg_take_notu (i := 24) rfl rfl rfl rfl (by kernel_rfl) (by kernel_rfl) (by kernel_rfl) (by kernel_rfl) ?_
              refine wg_take_notu (i := 25) rfl rfl rfl rfl (by kernel_rfl) (by kernel_rfl) (by kernel_rfl) (by kernel_rfl) ?_
              refine wg_take_notu (i := 26) rfl rfl rfl rfl (by kernel_rfl) (by kernel_rfl) (by kernel_rfl) (by kernel_rfl) ?_
              refine wg_take_notu (i := 27) rfl rfl rfl rfl (by kernel_rfl) (by kernel_rfl) (by kernel_rfl) (by kernel_rfl) ?_
              refine wg_take_notu (i := 28) rfl rfl rfl rfl (by kernel_rfl) (by kernel_rfl) (by kernel_rfl) (by kernel_rfl) ?_
              refine wg_take_notu (i := 29) rfl rfl rfl rfl (by kernel_rfl) (by kernel_rfl) (by kernel_rfl) (by kernel_rfl) ?_
              refine wg_take_notu (i := 30) rfl rfl rfl rfl (by kernel_rfl) (by kernel_rfl) (by kernel_rfl) (by kernel_rfl) ?_
              refine wg_take_notu (i := 31) rfl rfl rfl rfl (by kernel_rfl) (by kernel_rfl) (by kernel_rfl) (by kernel_rfl) ?_
              refine wg_take_notu (i := 32) rfl rfl rfl rfl (by kernel_rfl) (by kernel_rfl) (by kernel_rfl) (by kernel_rfl) ?_
              refine wg_take_notu (i := 33) rfl rfl rfl rfl (by kernel_rfl) (by kernel_rfl) (by kernel_rfl) (by kernel_rfl) ?_
              refine wg_take_not (i := 34) rfl rfl rfl rfl rfl (by kernel_rfl) (by kernel_rfl) (by kernel_rfl) (by kernel_rfl) ?_
              refine wg_takep (i := 35) rfl (ov_pick_t rfl rfl) rfl rfl rfl (by kernel_rfl) (by kernel_rfl) (by kernel_rfl) rfl ?_
              refine wg_done (by kernel_rfl) ?_
              refine ce_then ?_
              refine cw_true rfl ?_
              refine cw_seq ?_
              refine cw_region ?_
              refine wl_v (ov_assign rfl) rfl rfl rfl ?_
              refine wl_nil ?_
              refine ce_then ?_
              refine cw_ret ?_
              refine ce_block_ret ?_
              refine ce_then_ret ?_
              refine ce_then_ret ?_
              refine ce_block_ret ?_
              refine ce_block_ret ?_
              refine ce_then_ret ?_
              refine ce_then_ret ?_
              refine ce_block_ret ?_
              refine ce_then_ret ?_
              refine ce_results (v := .bool false) (res1 rfl (rv_t rfl)) (fun w' hw => ?_)
              exact ⟨(bf (fun h => by have h9 := ((tour_mat.1 h).2.2 i (by omega) k (by omega)).2 (by omega); rw [show k = i from by omega] at he1; rw [show k = i from by omega] at h9; omega)), (Keep.nil.ss hw).to_new⟩
            ·
              refine wg_takep (i := 12) rfl (ov_pick_t rfl rfl) rfl rfl rfl (by kernel_rfl) (by kernel_rfl) (by kernel_rfl) rfl ?_
              refine wg_takep (i := 13) rfl (ov_move rfl) rfl rfl rfl (by kernel_rfl) (by kernel_rfl) (by kernel_rfl) rfl ?_
              refine wg_take_go (i := 14) rfl rfl rfl (ov_move rfl) rfl (by kernel_rfl) (by kernel_rfl) (by kernel_rfl) (by kernel_rfl) ?_
              refine wg_take_go (i := 15) rfl rfl rfl (ov_move rfl) rfl (by kernel_rfl) (by kernel_rfl) (by kernel_rfl) (by kernel_rfl) ?_
              refine wg_take_go_if (i := 16) rfl rfl rfl (ov_neq rfl rfl) rfl (by kernel_rfl) (by kernel_rfl) (by kernel_rfl) (by kernel_rfl) (fun c43 => ?_) (fun c43 => ?_)
              ·
                refine wg_take_go (i := 17) rfl rfl rfl (ov_move rfl) rfl (by kernel_rfl) (by kernel_rfl) (by kernel_rfl) (by kernel_rfl) ?_
                refine wg_take_go (i := 18) rfl rfl rfl (ov_move rfl) rfl (by kernel_rfl) (by kernel_rfl) (by kernel_rfl) (by kernel_rfl) ?_
                refine wg_take_go (i := 19) rfl rfl rfl (ov_move rfl) rfl (by kernel_rfl) (by kernel_rfl) (by kernel_rfl) (by kernel_rfl) ?_
                refine wg_take_go (i := 20) rfl rfl rfl (ov_index (k := i) (c := c) sI50 tI27 rfl rfl (some_holds (q := i * 1) (holds_old oA) (by rw [cells_length fL_len]; have hlt : i < hs.length := (by omega); omega)) (show i < xss.length from (by omega))) rfl (by kernel_rfl) (by kernel_rfl) (by kernel_rfl) (by kernel_rfl) ?_
                refine wg_take_go (i := 21) rfl rfl rfl (ov_load tI27 (holds_old oA) rfl (get_fLn fA (show i < xss.length from (by omega)))) rfl (by kernel_rfl) (by kernel_rfl) (by kernel_rfl) (by kernel_rfl) ?_
                refine wg_take_go (i := 22) rfl rfl rfl (ov_move rfl) rfl (by kernel_rfl) (by kernel_rfl) (by kernel_rfl) (by kernel_rfl) ?_
                refine wg_take_go (i := 23) rfl rfl rfl (ov_index (k := k) (c := (hs.getD i (none, 0, 0)).2.2) sI27 tI3 rfl rfl (some_holds (q := k * 1) (mx_at (mx_old omA) (show i < xss.length from (by omega))) (by rw [cells_length fI_len]; have hlt : k < (xss.getD i []).length := (by omega); omega)) (show k < (xss.getD i []).length from (by omega))) rfl (by kernel_rfl) (by kernel_rfl) (by kernel_rfl) (by kernel_rfl) ?_
                refine wg_take_go (i := 24) rfl rfl rfl (ov_load tI3 (mx_at (mx_old omA) (show i < xss.length from (by omega))) rfl (get_fI (show k < (xss.getD i []).length from (by omega)))) rfl (by kernel_rfl) (by kernel_rfl) (by kernel_rfl) (by kernel_rfl) ?_
                refine wg_take_go (i := 25) rfl rfl rfl (ov_move rfl) rfl (by kernel_rfl) (by kernel_rfl) (by kernel_rfl) (by kernel_rfl) ?_
                refine wg_take_go (i := 26) rfl rfl rfl (ov_move rfl) rfl (by kernel_rfl) (by kernel_rfl) (by kernel_rfl) (by kernel_rfl) ?_
                refine wg_take_go (i := 27) rfl rfl rfl (ov_index (k := k) (c := c) sI50 tI27 rfl rfl (some_holds (q := k * 1) (holds_old oA) (by rw [cells_length fL_len]; have hlt : k < hs.length := (by omega); omega)) (show k < xss.length from (by omega))) rfl (by kernel_rfl) (by kernel_rfl) (by kernel_rfl) (by kernel_rfl) ?_
                refine wg_take_go (i := 28) rfl rfl rfl (ov_load tI27 (holds_old oA) rfl (get_fLn fA (show k < xss.length from (by omega)))) rfl (by kernel_rfl) (by kernel_rfl) (by kernel_rfl) (by kernel_rfl) ?_
                refine wg_take_go (i := 29) rfl rfl rfl (ov_move rfl) rfl (by kernel_rfl) (by kernel_rfl) (by kernel_rfl) (by kernel_rfl) ?_
                refine wg_take_go (i := 30) rfl rfl rfl (ov_index (k := i) (c := (hs.getD k (none, 0, 0)).2.2) sI27 tI3 rfl rfl (some_holds (q := i * 1) (mx_at (mx_old omA) (show k < xss.length from (by omega))) (by rw [cells_length fI_len]; have hlt : i < (xss.getD k []).length := (by omega); omega)) (show i < (xss.getD k []).length from (by omega))) rfl (by kernel_rfl) (by kernel_rfl) (by kernel_rfl) (by kernel_rfl) ?_
                refine wg_take_go (i := 31) rfl rfl rfl (ov_load tI3 (mx_at (mx_old omA) (show k < xss.length from (by omega))) rfl (get_fI (show i < (xss.getD k []).length from (by omega)))) rfl (by kernel_rfl) (by kernel_rfl) (by kernel_rfl) (by kernel_rfl) ?_
                refine wg_take_go (i := 32) rfl rfl rfl (ov_add (r := ((xss.getD i []).getD k 0) + ((xss.getD k []).getD i 0)) rfl rfl rfl (by omega)) rfl (by kernel_rfl) (by kernel_rfl) (by kernel_rfl) (by kernel_rfl) ?_
                refine wg_take_go_if (i := 33) rfl rfl rfl (ov_neq rfl rfl) rfl (by kernel_rfl) (by kernel_rfl) (by kernel_rfl) (by kernel_rfl) (fun c60 => ?_) (fun c60 => ?_)
                ·
                  refine wg_take_go (i := 34) rfl rfl rfl (ov_pick_t rfl rfl) rfl (by kernel_rfl) (by kernel_rfl) (by kernel_rfl) (by kernel_rfl) ?_
                  refine wg_takep (i := 35) rfl (ov_pick_f rfl rfl) rfl rfl rfl (by kernel_rfl) (by kernel_rfl) (by kernel_rfl) rfl ?_
                  refine wg_done (by kernel_rfl) ?_
                  refine ce_then ?_
                  refine cw_true rfl ?_
                  refine cw_seq ?_
                  refine cw_region ?_
                  refine wl_v (ov_assign rfl) rfl rfl rfl ?_
                  refine wl_nil ?_
                  refine ce_then ?_
                  refine cw_ret ?_
                  refine ce_block_ret ?_
                  refine ce_then_ret ?_
                  refine ce_then_ret ?_
                  refine ce_block_ret ?_
                  refine ce_block_ret ?_
                  refine ce_then_ret ?_
                  refine ce_then_ret ?_
                  refine ce_block_ret ?_
                  refine ce_then_ret ?_
                  refine ce_results (v := .bool false) (res1 rfl (rv_t rfl)) (fun w' hw => ?_)
                  exact ⟨(bf (fun h => by have := ((tour_mat.1 h).2.2 i (by omega) k (by omega)).1 (by omega); omega)), (Keep.nil.ss hw).to_new⟩
                ·
                  refine wg_take_go (i := 34) rfl rfl rfl (ov_pick_t rfl rfl) rfl (by kernel_rfl) (by kernel_rfl) (by kernel_rfl) (by kernel_rfl) ?_
                  refine wg_takep (i := 35) rfl (ov_pick_f rfl rfl) rfl rfl rfl (by kernel_rfl) (by kernel_rfl) (by kernel_rfl) rfl ?_
                  refine wg_done (by kernel_rfl) ?_
                  refine ce_then ?_
                  refine cw_false rfl ?_
                  refine cw_skip ?_
                  refine ce_block ?_
                  refine ce_then ?_
                  refine cw_region ?_
                  refine wl_v (ov_add (r := ((k + 1 : Nat) : Int)) rfl rfl rfl (by omega)) rfl rfl rfl ?_
                  refine wl_v (ov_move rfl) rfl rfl rfl ?_
                  refine wl_nil ?_
                  exact fun ac_ w_ hs_ => hR1 (k + 1) ⟨by omega, fun b hb => by rcases Nat.lt_succ_iff_lt_or_eq.1 hb with h | rfl; exact hj2 b h; first | exact ⟨fun h9 => by omega, fun h9 => by subst h9; omega⟩ | exact ⟨fun h9 => by omega, fun h9 => by omega⟩⟩ (by omega) ac_ w_ (hs_.weaken (.cons rfl (.cons rfl (.cons rfl (.cons rfl (.cons rfl (.cons rfl (.nil))))))) (.nil))
              ·
                refine wg_take_go (i := 17) rfl rfl rfl (ov_move rfl) rfl (by kernel_rfl) (by kernel_rfl) (by kernel_rfl) (by kernel_rfl) ?_
                refine wg_take_not (i := 18) rfl rfl rfl rfl rfl (by kernel_rfl) (by kernel_rfl) (by kernel_rfl) (by kernel_rfl) ?_
                refine wg_take_not (i := 19) rfl rfl rfl rfl rfl (by kernel_rfl) (by kernel_rfl) (by kernel_rfl) (by kernel_rfl) ?_
                refine wg_take_not (i := 20) rfl rfl rfl rfl rfl (by kernel_rfl) (by kernel_rfl) (by kernel_rfl) (by kernel_rfl) ?_
                refine wg_take_not (i := 21) rfl rfl rfl rfl rfl (by kernel_rfl) (by kernel_rfl) (by kernel_rfl) (by kernel_rfl) ?_
                refine wg_take_not (i := 22) rfl rfl rfl rfl rfl (by kernel_rfl) (by kernel_rfl) (by kernel_rfl) (by kernel_rfl) ?_
                refine wg_take_not (i := 23) rfl rfl rfl rfl rfl (by kernel_rfl) (by kernel_rfl) (by kernel_rfl) (by kernel_rfl) ?_
                refine wg_take_not (i := 24) rfl rfl rfl rfl rfl (by kernel_rfl) (by kernel_rfl) (by kernel_rfl) (by kernel_rfl) ?_
                refine wg_take_not (i := 25) rfl rfl rfl rfl rfl (by kernel_rfl) (by kernel_rfl) (by kernel_rfl) (by kernel_rfl) ?_
                refine wg_take_not (i := 26) rfl rfl rfl rfl rfl (by kernel_rfl) (by kernel_rfl) (by kernel_rfl) (by kernel_rfl) ?_
                refine wg_take_not (i := 27) rfl rfl rfl rfl rfl (by kernel_rfl) (by kernel_rfl) (by kernel_rfl) (by kernel_rfl) ?_
                refine wg_take_not (i := 28) rfl rfl rfl rfl rfl (by kernel_rfl) (by kernel_rfl) (by kernel_rfl) (by kernel_rfl) ?_
                refine wg_take_not (i := 29) rfl rfl rfl rfl rfl (by kernel_rfl) (by kernel_rfl) (by kernel_rfl) (by kernel_rfl) ?_
                refine wg_take_not (i := 30) rfl rfl rfl rfl rfl (by kernel_rfl) (by kernel_rfl) (by kernel_rfl) (by kernel_rfl) ?_
                refine wg_take_not (i := 31) rfl rfl rfl rfl rfl (by kernel_rfl) (by kernel_rfl) (by kernel_rfl) (by kernel_rfl) ?_
                refine wg_take_not (i := 32) rfl rfl rfl rfl rfl (by kernel_rfl) (by kernel_rfl) (by kernel_rfl) (by kernel_rfl) ?_
                refine wg_take_not (i := 33) rfl rfl rfl rfl rfl (by kernel_rfl) (by kernel_rfl) (by kernel_rfl) (by kernel_rfl) ?_
                refine wg_take_go (i := 34) rfl rfl rfl (ov_pick_f rfl rfl) rfl (by kernel_rfl) (by kernel_rfl) (by kernel_rfl) (by kernel_rfl) ?_
                refine wg_takep (i := 35) rfl (ov_pick_f rfl rfl) rfl rfl rfl (by kernel_rfl) (by kernel_rfl) (by kernel_rfl) rfl ?_
                refine wg_done (by kernel_rfl) ?_
                refine ce_then ?_
                refine cw_false rfl ?_
                refine cw_skip ?_
                refine ce_block ?_
                refine ce_then ?_
                refine cw_region ?_
                refine wl_v (ov_add (r := ((k + 1 : Nat) : Int)) rfl rfl rfl (by omega)) rfl rfl rfl ?_
                refine wl_v (ov_move rfl) rfl rfl rfl ?_
                refine wl_nil ?_
                exact fun ac_ w_ hs_ => hR1 (k + 1) ⟨by omega, fun b hb => by rcases Nat.lt_succ_iff_lt_or_eq.1 hb with h | rfl; exact hj2 b h; first | exact ⟨fun h9 => by omega, fun h9 => by subst h9; omega⟩ | exact ⟨fun h9 => by omega, fun h9 => by omega⟩⟩ (by omega) ac_ w_ (hs_.weaken (.cons rfl (.cons rfl (.cons rfl (.cons rfl (.cons rfl (.cons rfl (.nil))))))) (.nil))
          ·
            refine wg_takep (i := 3) rfl (ov_move rfl) rfl rfl rfl (by kernel_rfl) (by kernel_rfl) (by kernel_rfl) rfl ?_
            refine wg_take_not (i := 4) rfl rfl rfl rfl rfl (by kernel_rfl) (by kernel_rfl) (by kernel_rfl) (by kernel_rfl) ?_
            refine wg_take_not (i := 5) rfl rfl rfl rfl rfl (by kernel_rfl) (by kernel_rfl) (by kernel_rfl) (by kernel_rfl) ?_
            refine wg_take_not (i := 6) rfl rfl rfl rfl rfl (by kernel_rfl) (by kernel_rfl) (by kernel_rfl) (by kernel_rfl) ?_
            refine wg_take_not (i := 7) rfl rfl rfl rfl rfl (by kernel_rfl) (by kernel_rfl) (by kernel_rfl) (by kernel_rfl) ?_
            refine wg_take_not (i := 8) rfl rfl rfl rfl rfl (by kernel_rfl) (by kernel_rfl) (by kernel_rfl) (by kernel_rfl) ?_
            refine wg_take_not (i := 9) rfl rfl rfl rfl rfl (by kernel_rfl) (by kernel_rfl) (by kernel_rfl) (by kernel_rfl) ?_
            refine wg_take_not (i := 10) rfl rfl rfl rfl rfl (by kernel_rfl) (by kernel_rfl) (by kernel_rfl) (by kernel_rfl) ?_
            refine wg_take_not (i := 11) rfl rfl rfl rfl rfl (by kernel_rfl) (by kernel_rfl) (by kernel_rfl) (by kernel_rfl) ?_
            refine wg_takep (i := 12) rfl (ov_pick_f rfl rfl) rfl rfl rfl (by kernel_rfl) (by kernel_rfl) (by kernel_rfl) rfl ?_
            refine wg_takep (i := 13) rfl (ov_move rfl) rfl rfl rfl (by kernel_rfl) (by kernel_rfl) (by kernel_rfl) rfl ?_
            refine wg_take_go (i := 14) rfl rfl rfl (ov_move rfl) rfl (by kernel_rfl) (by kernel_rfl) (by kernel_rfl) (by kernel_rfl) ?_
            refine wg_take_go (i := 15) rfl rfl rfl (ov_move rfl) rfl (by kernel_rfl) (by kernel_rfl) (by kernel_rfl) (by kernel_rfl) ?_
            refine wg_take_go_if (i := 16) rfl rfl rfl (ov_neq rfl rfl) rfl (by kernel_rfl) (by kernel_rfl) (by kernel_rfl) (by kernel_rfl) (fun c43 => ?_) (fun c43 => ?_)
            ·
              refine wg_take_go (i := 17) rfl rfl rfl (ov_move rfl) rfl (by kernel_rfl) (by kernel_rfl) (by kernel_rfl) (by kernel_rfl) ?_
              refine wg_take_go (i := 18) rfl rfl rfl (ov_move rfl) rfl (by kernel_rfl) (by kernel_rfl) (by kernel_rfl) (by kernel_rfl) ?_
              refine wg_take_go (i := 19) rfl rfl rfl (ov_move rfl) rfl (by kernel_rfl) (by kernel_rfl) (by kernel_rfl) (by kernel_rfl) ?_
              refine wg_take_go (i := 20) rfl rfl rfl (ov_index (k := i) (c := c) sI50 tI27 rfl rfl (some_holds (q := i * 1) (holds_old oA) (by rw [cells_length fL_len]; have hlt : i < hs.length := (by omega); omega)) (show i < xss.length from (by omega))) rfl (by kernel_rfl) (by kernel_rfl) (by kernel_rfl) (by kernel_rfl) ?_
              refine wg_take_go (i := 21) rfl rfl rfl (ov_load tI27 (holds_old oA) rfl (get_fLn fA (show i < xss.length from (by omega)))) rfl (by kernel_rfl) (by kernel_rfl) (by kernel_rfl) (by kernel_rfl) ?_
              refine wg_take_go (i := 22) rfl rfl rfl (ov_move rfl) rfl (by kernel_rfl) (by kernel_rfl) (by kernel_rfl) (by kernel_rfl) ?_
              refine wg_take_go (i := 23) rfl rfl rfl (ov_index (k := k) (c := (hs.getD i (none, 0, 0)).2.2) sI27 tI3 rfl rfl (some_holds (q := k * 1) (mx_at (mx_old omA) (show i < xss.length from (by omega))) (by rw [cells_length fI_len]; have hlt : k < (xss.getD i []).length := (by omega); omega)) (show k < (xss.getD i []).length from (by omega))) rfl (by kernel_rfl) (by kernel_rfl) (by kernel_rfl) (by kernel_rfl) ?_
              refine wg_take_go (i := 24) rfl rfl rfl (ov_load tI3 (mx_at (mx_old omA) (show i < xss.length from (by omega))) rfl (get_fI (show k < (xss.getD i []).length from (by omega)))) rfl (by kernel_rfl) (by kernel_rfl) (by kernel_rfl) (by kernel_rfl) ?_
              refine wg_take_go (i := 25) rfl rfl rfl (ov_move rfl) rfl (by kernel_rfl) (by kernel_rfl) (by kernel_rfl) (by kernel_rfl) ?_
              refine wg_take_go (i := 26) rfl rfl rfl (ov_move rfl) rfl (by kernel_rfl) (by kernel_rfl) (by kernel_rfl) (by kernel_rfl) ?_
              refine wg_take_go (i := 27) rfl rfl rfl (ov_index (k := k) (c := c) sI50 tI27 rfl rfl (some_holds (q := k * 1) (holds_old oA) (by rw [cells_length fL_len]; have hlt : k < hs.length := (by omega); omega)) (show k < xss.length from (by omega))) rfl (by kernel_rfl) (by kernel_rfl) (by kernel_rfl) (by kernel_rfl) ?_
              refine wg_take_go (i := 28) rfl rfl rfl (ov_load tI27 (holds_old oA) rfl (get_fLn fA (show k < xss.length from (by omega)))) rfl (by kernel_rfl) (by kernel_rfl) (by kernel_rfl) (by kernel_rfl) ?_
              refine wg_take_go (i := 29) rfl rfl rfl (ov_move rfl) rfl (by kernel_rfl) (by kernel_rfl) (by kernel_rfl) (by kernel_rfl) ?_
              refine wg_take_go (i := 30) rfl rfl rfl (ov_index (k := i) (c := (hs.getD k (none, 0, 0)).2.2) sI27 tI3 rfl rfl (some_holds (q := i * 1) (mx_at (mx_old omA) (show k < xss.length from (by omega))) (by rw [cells_length fI_len]; have hlt : i < (xss.getD k []).length := (by omega); omega)) (show i < (xss.getD k []).length from (by omega))) rfl (by kernel_rfl) (by kernel_rfl) (by kernel_rfl) (by kernel_rfl) ?_
              refine wg_take_go (i := 31) rfl rfl rfl (ov_load tI3 (mx_at (mx_old omA) (show k < xss.length from (by omega))) rfl (get_fI (show i < (xss.getD k []).length from (by omega)))) rfl (by kernel_rfl) (by kernel_rfl) (by kernel_rfl) (by kernel_rfl) ?_
              refine wg_take_go (i := 32) rfl rfl rfl (ov_add (r := ((xss.getD i []).getD k 0) + ((xss.getD k []).getD i 0)) rfl rfl rfl (by omega)) rfl (by kernel_rfl) (by kernel_rfl) (by kernel_rfl) (by kernel_rfl) ?_
              refine wg_take_go_if (i := 33) rfl rfl rfl (ov_neq rfl rfl) rfl (by kernel_rfl) (by kernel_rfl) (by kernel_rfl) (by kernel_rfl) (fun c60 => ?_) (fun c60 => ?_)
              ·
                refine wg_take_go (i := 34) rfl rfl rfl (ov_pick_t rfl rfl) rfl (by kernel_rfl) (by kernel_rfl) (by kernel_rfl) (by kernel_rfl) ?_
                refine wg_takep (i := 35) rfl (ov_pick_f rfl rfl) rfl rfl rfl (by kernel_rfl) (by kernel_rfl) (by kernel_rfl) rfl ?_
                refine wg_done (by kernel_rfl) ?_
                refine ce_then ?_
                refine cw_true rfl ?_
                refine cw_seq ?_
                refine cw_region ?_
                refine wl_v (ov_assign rfl) rfl rfl rfl ?_
                refine wl_nil ?_
                refine ce_then ?_
                refine cw_ret ?_
                refine ce_block_ret ?_
                refine ce_then_ret ?_
                refine ce_then_ret ?_
                refine ce_block_ret ?_
                refine ce_block_ret ?_
                refine ce_then_ret ?_
                refine ce_then_ret ?_
                refine ce_block_ret ?_
                refine ce_then_ret ?_
                refine ce_results (v := .bool false) (res1 rfl (rv_t rfl)) (fun w' hw => ?_)
                exact ⟨(bf (fun h => by have := ((tour_mat.1 h).2.2 i (by omega) k (by omega)).1 (by omega); omega)), (Keep.nil.ss hw).to_new⟩
              ·
                refine wg_take_go (i := 34) rfl rfl rfl (ov_pick_t rfl rfl) rfl (by kernel_rfl) (by kernel_rfl) (by kernel_rfl) (by kernel_rfl) ?_
                refine wg_takep (i := 35) rfl (ov_pick_f rfl rfl) rfl rfl rfl (by kernel_rfl) (by kernel_rfl) (by kernel_rfl) rfl ?_
                refine wg_done (by kernel_rfl) ?_
                refine ce_then ?_
                refine cw_false rfl ?_
                refine cw_skip ?_
                refine ce_block ?_
                refine ce_then ?_
                refine cw_region ?_
                refine wl_v (ov_add (r := ((k + 1 : Nat) : Int)) rfl rfl rfl (by omega)) rfl rfl rfl ?_
                refine wl_v (ov_move rfl) rfl rfl rfl ?_
                refine wl_nil ?_
                exact fun ac_ w_ hs_ => hR1 (k + 1) ⟨by omega, fun b hb => by rcases Nat.lt_succ_iff_lt_or_eq.1 hb with h | rfl; exact hj2 b h; first | exact ⟨fun h9 => by omega, fun h9 => by subst h9; omega⟩ | exact ⟨fun h9 => by omega, fun h9 => by omega⟩⟩ (by omega) ac_ w_ (hs_.weaken (.cons rfl (.cons rfl (.cons rfl (.cons rfl (.cons rfl (.cons rfl (.nil))))))) (.nil))
            ·
              refine wg_take_go (i := 17) rfl rfl rfl (ov_move rfl) rfl (by kernel_rfl) (by kernel_rfl) (by kernel_rfl) (by kernel_rfl) ?_
              refine wg_take_not (i := 18) rfl rfl rfl rfl rfl (by kernel_rfl) (by kernel_rfl) (by kernel_rfl) (by kernel_rfl) ?_
              refine wg_take_not (i := 19) rfl rfl rfl rfl rfl (by kernel_rfl) (by kernel_rfl) (by kernel_rfl) (by kernel_rfl) ?_
              refine wg_take_not (i := 20) rfl rfl rfl rfl rfl (by kernel_rfl) (by kernel_rfl) (by kernel_rfl) (by kernel_rfl) ?_
              refine wg_take_not (i := 21) rfl rfl rfl rfl rfl (by kernel_rfl) (by kernel_rfl) (by kernel_rfl) (by kernel_rfl) ?_
              refine wg_take_not (i := 22) rfl rfl rfl rfl rfl (by kernel_rfl) (by kernel_rfl) (by kernel_rfl) (by kernel_rfl) ?_
              refine wg_take_not (i := 23) rfl rfl rfl rfl rfl (by kernel_rfl) (by kernel_rfl) (by kernel_rfl) (by kernel_rfl) ?_
              refine wg_take_not (i := 24) rfl rfl rfl rfl rfl (by kernel_rfl) (by kernel_rfl) (by kernel_rfl) (by kernel_rfl) ?_
              refine wg_take_not (i := 25) rfl rfl rfl rfl rfl (by kernel_rfl) (by kernel_rfl) (by kernel_rfl) (by kernel_rfl) ?_
              refine wg_take_not (i := 26) rfl rfl rfl rfl rfl (by kernel_rfl) (by kernel_rfl) (by kernel_rfl) (by kernel_rfl) ?_
              refine wg_take_not (i := 27) rfl rfl rfl rfl rfl (by kernel_rfl) (by kernel_rfl) (by kernel_rfl) (by kernel_rfl) ?_
              refine wg_take_not (i := 28) rfl rfl rfl rfl rfl (by kernel_rfl) (by kernel_rfl) (by kernel_rfl) (by kernel_rfl) ?_
              refine wg_take_not (i := 29) rfl rfl rfl rfl rfl (by kernel_rfl) (by kernel_rfl) (by kernel_rfl) (by kernel_rfl) ?_
              refine wg_take_not (i := 30) rfl rfl rfl rfl rfl (by kernel_rfl) (by kernel_rfl) (by kernel_rfl) (by kernel_rfl) ?_
              refine wg_take_not (i := 31) rfl rfl rfl rfl rfl (by kernel_rfl) (by kernel_rfl) (by kernel_rfl) (by kernel_rfl) ?_
              refine wg_take_not (i := 32) rfl rfl rfl rfl rfl (by kernel_rfl) (by kernel_rfl) (by kernel_rfl) (by kernel_rfl) ?_
              refine wg_take_not (i := 33) rfl rfl rfl rfl rfl (by kernel_rfl) (by kernel_rfl) (by kernel_rfl) (by kernel_rfl) ?_
              refine wg_take_go (i := 34) rfl rfl rfl (ov_pick_f rfl rfl) rfl (by kernel_rfl) (by kernel_rfl) (by kernel_rfl) (by kernel_rfl) ?_
              refine wg_takep (i := 35) rfl (ov_pick_f rfl rfl) rfl rfl rfl (by kernel_rfl) (by kernel_rfl) (by kernel_rfl) rfl ?_
              refine wg_done (by kernel_rfl) ?_
              refine ce_then ?_
              refine cw_false rfl ?_
              refine cw_skip ?_
              refine ce_block ?_
              refine ce_then ?_
              refine cw_region ?_
              refine wl_v (ov_add (r := ((k + 1 : Nat) : Int)) rfl rfl rfl (by omega)) rfl rfl rfl ?_
              refine wl_v (ov_move rfl) rfl rfl rfl ?_
              refine wl_nil ?_
              exact fun ac_ w_ hs_ => hR1 (k + 1) ⟨by omega, fun b hb => by rcases Nat.lt_succ_iff_lt_or_eq.1 hb with h | rfl; exact hj2 b h; first | exact ⟨fun h9 => by omega, fun h9 => by subst h9; omega⟩ | exact ⟨fun h9 => by omega, fun h9 => by omega⟩⟩ (by omega) ac_ w_ (hs_.weaken (.cons rfl (.cons rfl (.cons rfl (.cons rfl (.cons rfl (.cons rfl (.nil))))))) (.nil))
        ·
          refine wl_nil ?_
          refine ce_then ?_
          refine cw_seq ?_
          refine cw_false rfl ?_
          refine cw_exit ?_
          refine ce_then_exit ?_
          refine ce_then_exit ?_
          refine ce_hit ?_
          refine ce_block ?_
          refine ce_then ?_
          refine cw_region ?_
          refine wl_v (ov_add (r := ((i + 1 : Nat) : Int)) rfl rfl rfl (by omega)) rfl rfl rfl ?_
          refine wl_v (ov_move rfl) rfl rfl rfl ?_
          refine wl_nil ?_
          exact fun ac_ w_ hs_ => hR0 (i + 1) ⟨by omega, fun a ha => by rcases Nat.lt_succ_iff_lt_or_eq.1 ha with h | rfl; exact hk2 a h; exact fun b hb => hj2 b (by omega)⟩ (by omega) ac_ w_ (hs_.weaken (.cons rfl (.cons rfl (.cons rfl (.nil)))) (.nil))
      ·
        refine wl_nil ?_
        refine ce_then ?_
        refine cw_seq ?_
        refine cw_false rfl ?_
        refine cw_exit ?_
        refine ce_then_exit ?_
        refine ce_then_exit ?_
        refine ce_hit ?_
        refine ce_then ?_
        refine cw_seq ?_
        refine cw_region ?_
        refine wl_v (ov_assign rfl) rfl rfl rfl ?_
        refine wl_nil ?_
        refine ce_then ?_
        refine cw_ret ?_
        refine ce_results (v := .bool true) (res1 rfl (rv_t rfl)) (fun w' hw => ?_)
        exact ⟨(bt (tour_mat.2 ⟨c6, by omega, fun a ha => hk2 a (by omega)⟩)), (Keep.nil.ss hw).to_new⟩
  ·
    refine wl_v (ov_not rfl) rfl rfl rfl ?_
    refine wl_v (ov_move rfl) rfl rfl rfl ?_
    refine wl_not rfl rfl rfl rfl rfl rfl ?_
    refine wl_not rfl rfl rfl rfl rfl rfl ?_
    refine wl_not rfl rfl rfl rfl rfl rfl ?_
    refine wl_not rfl rfl rfl rfl rfl rfl ?_
    refine wl_not rfl rfl rfl rfl rfl rfl ?_
    refine wl_not rfl rfl rfl rfl rfl rfl ?_
    refine wl_not rfl rfl rfl rfl rfl rfl ?_
    refine wl_v (ov_pick_t rfl rfl) rfl rfl rfl ?_
    refine wl_nil ?_
    refine ce_then ?_
    refine cw_true rfl ?_
    refine cw_seq ?_
    refine cw_region ?_
    refine wl_v (ov_assign rfl) rfl rfl rfl ?_
    refine wl_nil ?_
    refine ce_then ?_
    refine cw_ret ?_
    refine ce_then_ret ?_
    refine ce_results (v := .bool false) (res1 rfl (rv_t rfl)) (fun w' hw => ?_)
    exact ⟨(bf (fun h => c6 (tour_mat.1 h).1)), (Keep.nil.ss hw).to_new⟩
set_option maxRecDepth 100000 in
theorem validTS_c (w : World) (A : Option Addr) (n : Nat) (c : Nat) (hs : List Hd) (xss : List (List Int)) (hA : At w A (cells fL hs)) (eA : xss.length = n) (lA : n ≤ c) (fA : NestF hs xss) (mA : Mx w hs xss) (hsz : xss.length ≤ 1048576 ∧ ∀ r ∈ xss, r.length ≤ 1048576) (hbd : ∀ r ∈ xss, ∀ x ∈ r, -9223372036854775808 ≤ x ∧ x ≤ 9223372036854775807) : Calls Try.prog 85 #[.slice A (n) (c)] w (Ret fun rv w' => rv = .bool (decide (TourP xss)) ∧ New w w' []) := by
  have oA := hA.atB
  subst eA
  have flA := fA.1
  have omA := Mx.atB mA
  have hcn : colsN xss = (xss.getD 0 []).length := rfl
  refine fn_enter (args := [.slice A (xss.length) (c)]) Try.func85 rfl Try.ntmps85 rfl (SS.start w) ?_
  refine cw_seq ?_
  refine cw_region ?_
  refine wl_v (ov_assign rfl) rfl rfl rfl ?_
  refine wl_nil ?_
  refine ce_then ?_
  refine cw_seq ?_
  refine cw_seq ?_
  refine cw_region ?_
  refine wl_v (ov_assign rfl) rfl rfl rfl ?_
  refine wl_nil ?_
  refine ce_then ?_
  refine cw_block ?_
  refine cw_loop1 (fun (j : Nat) => [(0, .slice A (xss.length) (c)), (3, .int .i64 (((j : Nat) : Int)))]) (fun (j : Nat) => []) (fun (j : Nat) => j ≤ xss.length ∧ ∀ r ∈ xss.take j, r.length = xss.length) (fun (j : Nat) => xss.length - j) 0 ⟨by omega, by simp⟩ (.cons rfl (.cons (congrArg (fun z => some (Value.int .i64 z)) (show 0 = ((0 : Nat) : Int) by first | omega | rfl | (simp; done))) (.nil))) (.nil) ?_
  intro R0 j hk hR0
  obtain ⟨hj1, hj2⟩ := hk
  refine cw_seq ?_
  refine cw_seq ?_
  refine cw_region ?_
  refine wl_v (ov_move rfl) rfl rfl rfl ?_
  refine wl_v (ov_move rfl) rfl rfl rfl ?_
  refine wl_v (ov_len (sliceI_spec sI50) rfl) rfl rfl rfl ?_
  refine wl_if (ov_lss rfl rfl) rfl rfl rfl (fun c9 => ?_) (fun c9 => ?_)
  ·
    refine wl_nil ?_
    refine ce_then ?_
    refine cw_true rfl ?_
    refine cw_skip ?_
    refine ce_then ?_
    refine cw_seq ?_
    refine cw_block ?_
    refine cw_seq ?_
    refine cw_region ?_
    refine wl_v (ov_move rfl) rfl rfl rfl ?_
    refine wl_v (ov_move rfl) rfl rfl rfl ?_
    refine wl_v (ov_index (k := j) (c := c) sI50 tI27 rfl rfl (some_holds (q := j * 1) (holds_old oA) (by rw [cells_length fL_len]; have hlt : j < hs.length := (by omega); omega)) (show j < xss.length from (by omega))) rfl rfl rfl ?_
    refine wl_v (ov_load tI27 (holds_old oA) rfl (get_fLn fA (show j < xss.length from (by omega)))) rfl rfl rfl ?_
    refine wl_v (ov_len (sliceI_spec sI27) rfl) rfl rfl rfl ?_
    refine wl_v (ov_move rfl) rfl rfl rfl ?_
    refine wl_v (ov_len (sliceI_spec sI50) rfl) rfl rfl rfl ?_
    refine wl_if (ov_neq rfl rfl) rfl rfl rfl (fun c19 => ?_) (fun c19 => ?_)
    ·
      refine wl_nil ?_
      refine ce_then ?_
      refine cw_true rfl ?_
      refine cw_seq ?_
      refine cw_region ?_
      refine wl_v (ov_assign rfl) rfl rfl rfl ?_
      refine wl_nil ?_
      refine ce_then ?_
      refine cw_ret ?_
      refine ce_block_ret ?_
      refine ce_then_ret ?_
      refine ce_then_ret ?_
      refine ce_block_ret ?_
      refine ce_then_ret ?_
      refine ce_results (v := .bool false) (res1 rfl (rv_t rfl)) (fun w' hw => ?_)
      exact ⟨(bf (fun h => c19 (by have := h.2.1 _ (getD_mem (xs := xss) (k := j) [] (by omega)); omega))), (Keep.nil.ss hw).to_new⟩
    ·
      refine wl_nil ?_
      refine ce_then ?_
      refine cw_false rfl ?_
      refine cw_skip ?_
      refine ce_block ?_
      refine ce_then ?_
      refine cw_region ?_
      refine wl_v (ov_move rfl) rfl rfl rfl ?_
      refine wl_v (ov_add (r := ((j + 1 : Nat) : Int)) rfl rfl rfl (by omega)) rfl rfl rfl ?_
      refine wl_v (ov_assign rfl) rfl rfl rfl ?_
      refine wl_nil ?_
      exact fun ac_ w_ hs_ => hR0 (j + 1) ⟨by omega, all_take_step (p := fun r : List Int => r.length = xss.length) [] (by omega) hj2 (by omega)⟩ (by omega) ac_ w_ (hs_.weaken (.cons rfl (.cons rfl (.nil))) (.nil))
  ·
    refine wl_nil ?_
    refine ce_then ?_
    refine cw_false rfl ?_
    refine cw_exit ?_
    refine ce_then_exit ?_
    refine ce_then_exit ?_
    refine ce_hit ?_
    refine ce_then ?_
    refine cw_seq ?_
    refine cw_seq ?_
    have hlen : ∀ r ∈ xss, r.length = xss.length := take_all (p := fun r : List Int => r.length = xss.length) (k := j) (by omega) hj2
    refine cw_region ?_
    refine wl_v (ov_assign rfl) rfl rfl rfl ?_
    refine wl_nil ?_
    refine ce_then ?_
    refine cw_block ?_
    refine cw_loop1 (fun (i : Nat) => [(0, .slice A (xss.length) (c)), (4, .int .i64 (((i : Nat) : Int)))]) (fun (i : Nat) => []) (fun (i : Nat) => i ≤ xss.length ∧ ∀ a, a < i → ∀ b, b < xss.length → (0 ≤ ent xss a b ∧ ent xss a b ≤ 1) ∧ PairP xss a b) (fun (i : Nat) => xss.length - i) 0 ⟨by omega, fun a ha => absurd ha (Nat.not_lt_zero _)⟩ (.cons rfl (.cons (congrArg (fun z => some (Value.int .i64 z)) (show 0 = ((0 : Nat) : Int) by first | omega | rfl | (simp; done))) (.nil))) (.nil) ?_
    intro R1 i hk1 hR1
    obtain ⟨hk1, hk2⟩ := hk1
    refine cw_seq ?_
    refine cw_seq ?_
    refine cw_region ?_
    refine wl_v (ov_move rfl) rfl rfl rfl ?_
    refine wl_v (ov_move rfl) rfl rfl rfl ?_
    refine wl_v (ov_len (sliceI_spec sI50) rfl) rfl rfl rfl ?_
    refine wl_if (ov_lss rfl rfl) rfl rfl rfl (fun c23 => ?_) (fun c23 => ?_)
    ·
      refine wl_nil ?_
      refine ce_then ?_
      refine cw_true rfl ?_
      refine cw_skip ?_
      refine ce_then ?_
      refine cw_seq ?_
      refine cw_block ?_
      refine cw_seq ?_
      refine cw_region ?_
      refine wl_v (ov_assign rfl) rfl rfl rfl ?_
      refine wl_nil ?_
      refine ce_then ?_
      refine cw_block ?_
      refine cw_loop1 (fun (k : Nat) => [(0, .slice A (xss.length) (c)), (4, .int .i64 (((i : Nat) : Int))), (5, .int .i64 (((k : Nat) : Int)))]) (fun (k : Nat) => []) (fun (k : Nat) => k ≤ xss.length ∧ ∀ b, b < k → (0 ≤ ent xss i b ∧ ent xss i b ≤ 1) ∧ PairP xss i b) (fun (k : Nat) => xss.length - k) 0 ⟨by omega, fun a ha => absurd ha (Nat.not_lt_zero _)⟩ (.cons rfl (.cons rfl (.cons (congrArg (fun z => some (Value.int .i64 z)) (show 0 = ((0 : Nat) : Int) by first | omega | rfl | (simp; done))) (.nil)))) (.nil) ?_
      intro R2 k hk2 hR2
      obtain ⟨hl1, hl2⟩ := hk2
      refine cw_seq ?_
      refine cw_seq ?_
      refine cw_region ?_
      refine wl_v (ov_move rfl) rfl rfl rfl ?_
      refine wl_v (ov_move rfl) rfl rfl rfl ?_
      refine wl_v (ov_len (sliceI_spec sI50) rfl) rfl rfl rfl ?_
      refine wl_if (ov_lss rfl rfl) rfl rfl rfl (fun c29 => ?_) (fun c29 => ?_)
      ·
        refine wl_nil ?_
        refine ce_then ?_
        refine cw_true rfl ?_
        refine cw_skip ?_
        refine ce_then ?_
        refine cw_seq ?_
        refine cw_block ?_
        refine cw_seq ?_
        refine cw_draw mixO [] (.nil) rfl ?_
        have he1 : ent xss i k = (xss.getD i []).getD k 0 := rfl
        have he2 : ent xss k i = (xss.getD k []).getD i 0 := rfl
        have hli := hlen _ (getD_mem (xs := xss) (k := i) [] (by omega))
        have hlk := hlen _ (getD_mem (xs := xss) (k := k) [] (by omega))
        have hx2 := hbd _ (getD_mem (xs := xss) (k := k) [] (by omega)) _ (getD_mem (xs := xss.getD k []) (k := i) 0 (by omega))
        refine wg_takep (i := 0) rfl (ov_move rfl) rfl rfl rfl (by kernel_rfl) (by kernel_rfl) (by kernel_rfl) rfl ?_
        refine wg_takep (i := 1) rfl (ov_move rfl) rfl rfl rfl (by kernel_rfl) (by kernel_rfl) (by kernel_rfl) rfl ?_
        refine wg_take (i := 2) rfl (ov_index (k := i) (c := c) sI50 tI27 rfl rfl (some_holds (q := i * 1) (holds_old oA) (by rw [cells_length fL_len]; have hlt : i < hs.length := (by omega); omega)) (show i < xss.length from (by omega))) rfl rfl rfl (by kernel_rfl) (by kernel_rfl) (by kernel_rfl) (by kernel_rfl) ?_
        refine wg_take (i := 3) rfl (ov_load tI27 (holds_old oA) rfl (get_fLn fA (show i < xss.length from (by omega)))) rfl rfl rfl (by kernel_rfl) (by kernel_rfl) (by kernel_rfl) (by kernel_rfl) ?_
        refine wg_takep (i := 4) rfl (ov_move rfl) rfl rfl rfl (by kernel_rfl) (by kernel_rfl) (by kernel_rfl) rfl ?_
        refine wg_take (i := 5) rfl (ov_index (k := k) (c := (hs.getD i (none, 0, 0)).2.2) sI27 tI3 rfl rfl (some_holds (q := k * 1) (mx_at (mx_old omA) (show i < xss.length from (by omega))) (by rw [cells_length fI_len]; have hlt : k < (xss.getD i []).length := (by omega); omega)) (show k < (xss.getD i []).length from (by omega))) rfl rfl rfl (by kernel_rfl) (by kernel_rfl) (by kernel_rfl) (by kernel_rfl) ?_
        refine wg_take (i := 6) rfl (ov_load tI3 (mx_at (mx_old omA) (show i < xss.length from (by omega))) rfl (get_fI (show k < (xss.getD i []).length from (by omega)))) rfl rfl rfl (by kernel_rfl) (by kernel_rfl) (by kernel_rfl) (by kernel_rfl) ?_
        refine wg_one (i := 7) (by kernel_rfl) ?_
        refine go_r rfl rfl rfl rfl (or_call (fv := []) (vs := [.int .i64 (((xss.getD i []).getD k 0)), .int .i64 (0), .int .i64 (1)]) (cs := []) en75 rfl rfl (call_v (fun w hw => inRange_c w ((xss.getD i []).getD k 0) 0 1 ))) (kt_if rfl (fun c39 => ?_) (fun c39 => ?_))
        ·
          refine gk (.nil) ?_
          refine wg_takep (i := 8) rfl (ov_not rfl) rfl rfl rfl (by kernel_rfl) (by kernel_rfl) (by kernel_rfl) rfl ?_
          refine wg_takep (i := 9) rfl (ov_move rfl) rfl rfl rfl (by kernel_rfl) (by kernel_rfl) (by kernel_rfl) rfl ?_
          refine wg_take_go (i := 10) rfl rfl rfl (ov_move rfl) rfl (by kernel_rfl) (by kernel_rfl) (by kernel_rfl) (by kernel_rfl) ?_
          refine wg_take_go (i := 11) rfl rfl rfl (ov_move rfl) rfl (by kernel_rfl) (by kernel_rfl) (by kernel_rfl) (by kernel_rfl) ?_
          refine wg_take_go_if (i := 12) rfl rfl rfl (ov_neq rfl rfl) rfl (by kernel_rfl) (by kernel_rfl) (by kernel_rfl) (by kernel_rfl) (fun c44 => ?_) (fun c44 => ?_)
          ·
            refine wg_take_go (i := 13) rfl rfl rfl (ov_move rfl) rfl (by kernel_rfl) (by kernel_rfl) (by kernel_rfl) (by kernel_rfl) ?_
            refine wg_take_go (i := 14) rfl rfl rfl (ov_move rfl) rfl (by kernel_rfl) (by kernel_rfl) (by kernel_rfl) (by kernel_rfl) ?_
            refine wg_take_go (i := 15) rfl rfl rfl (ov_move rfl) rfl (by kernel_rfl) (by kernel_rfl) (by kernel_rfl) (by kernel_rfl) ?_
            refine wg_take_go (i := 16) rfl rfl rfl (ov_index (k := i) (c := c) sI50 tI27 rfl rfl (some_holds (q := i * 1) (holds_old oA) (by rw [cells_length fL_len]; have hlt : i < hs.length := (by omega); omega)) (show i < xss.length from (by omega))) rfl (by kernel_rfl) (by kernel_rfl) (by kernel_rfl) (by kernel_rfl) ?_
            refine wg_take_go (i := 17) rfl rfl rfl (ov_load tI27 (holds_old oA) rfl (get_fLn fA (show i < xss.length from (by omega)))) rfl (by kernel_rfl) (by kernel_rfl) (by kernel_rfl) (by kernel_rfl) ?_
            refine wg_take_go (i := 18) rfl rfl rfl (ov_move rfl) rfl (by kernel_rfl) (by kernel_rfl) (by kernel_rfl) (by kernel_rfl) ?_
            refine wg_take_go (i := 19) rfl rfl rfl (ov_index (k := k) (c := (hs.getD i (none, 0, 0)).2.2) sI27 tI3 rfl rfl (some_holds (q := k * 1) (mx_at (mx_old omA) (show i < xss.length from (by omega))) (by rw [cells_length fI_len]; have hlt : k < (xss.getD i []).length := (by omega); omega)) (show k < (xss.getD i []).length from (by omega))) rfl (by kernel_rfl) (by kernel_rfl) (by kernel_rfl) (by kernel_rfl) ?_
            refine wg_take_go (i := 20) rfl rfl rfl (ov_load tI3 (mx_at (mx_old omA) (show i < xss.length from (by omega))) rfl (get_fI (show k < (xss.getD i []).length from (by omega)))) rfl (by kernel_rfl) (by kernel_rfl) (by kernel_rfl) (by kernel_rfl) ?_
            refine wg_take_go (i := 21) rfl rfl rfl (ov_move rfl) rfl (by kernel_rfl) (by kernel_rfl) (by kernel_rfl) (by kernel_rfl) ?_
            refine wg_take_go (i := 22) rfl rfl rfl (ov_move rfl) rfl (by kernel_rfl) (by kernel_rfl) (by kernel_rfl) (by kernel_rfl) ?_
            refine wg_take_go (i := 23) rfl rfl rfl (ov_index (k := k) (c := c) sI50 tI27 rfl rfl (some_holds (q := k * 1) (holds_old oA) (by rw [cells_length fL_len]; have hlt : k < hs.length := (by omega); omega)) (show k < xss.length from (by omega))) rfl (by kernel_rfl) (by kernel_rfl) (by kernel_rfl) (by kernel_rfl) ?_
            refine wg_take_go (i := 24) rfl rfl rfl (ov_load tI27 (holds_old oA) rfl (get_fLn fA (show k < xss.length from (by omega)))) rfl (by kernel_rfl) (by kernel_rfl) (by kernel_rfl) (by kernel_rfl) ?_
            refine wg_take_go (i := 25) rfl rfl rfl (ov_move rfl) rfl (by kernel_rfl) (by kernel_rfl) (by kernel_rfl) (by kernel_rfl) ?_
            refine wg_take_go (i := 26) rfl rfl rfl (ov_index (k := i) (c := (hs.getD k (none, 0, 0)).2.2) sI27 tI3 rfl rfl (some_holds (q := i * 1) (mx_at (mx_old omA) (show k < xss.length from (by omega))) (by rw [cells_length fI_len]; have hlt : i < (xss.getD k []).length := (by omega); omega)) (show i < (xss.getD k []).length from (by omega))) rfl (by kernel_rfl) (by kernel_rfl) (by kernel_rfl) (by kernel_rfl) ?_
            refine wg_take_go (i := 27) rfl rfl rfl (ov_load tI3 (mx_at (mx_old omA) (show k < xss.length from (by omega))) rfl (get_fI (show i < (xss.getD k []).length from (by omega)))) rfl (by kernel_rfl) (by kernel_rfl) (by kernel_rfl) (by kernel_rfl) ?_
            refine wg_take_go (i := 28) rfl rfl rfl (ov_addw rfl rfl) rfl (by kernel_rfl) (by kernel_rfl) (by kernel_rfl) (by kernel_rfl) ?_
            have hwr : IntKind.i64.wrap ((xss.getD i []).getD k 0 + (xss.getD k []).getD i 0) = 1 ↔ (xss.getD i []).getD k 0 + (xss.getD k []).getD i 0 = 1 := by rw [IntKind.wrap_i64]; omega
            refine wg_take_go_if (i := 29) rfl rfl rfl (ov_neq rfl rfl) rfl (by kernel_rfl) (by kernel_rfl) (by kernel_rfl) (by kernel_rfl) (fun c61 => ?_) (fun c61 => ?_)
            ·
              refine wg_take_go (i := 30) rfl rfl rfl (ov_pick_t rfl rfl) rfl (by kernel_rfl) (by kernel_rfl) (by kernel_rfl) (by kernel_rfl) ?_
              refine wg_takep (i := 31) rfl (ov_pick_f rfl rfl) rfl rfl rfl (by kernel_rfl) (by kernel_rfl) (by kernel_rfl) rfl ?_
              refine wg_takep (i := 32) rfl (ov_move rfl) rfl rfl rfl (by kernel_rfl) (by kernel_rfl) (by kernel_rfl) rfl ?_
              refine wg_take_not (i := 33) rfl rfl rfl rfl rfl (by kernel_rfl) (by kernel_rfl) (by kernel_rfl) (by kernel_rfl) ?_
              refine wg_take_not (i := 34) rfl rfl rfl rfl rfl (by kernel_rfl) (by kernel_rfl) (by kernel_rfl) (by kernel_rfl) ?_
              refine wg_take_not (i := 35) rfl rfl rfl rfl rfl (by kernel_rfl) (by kernel_rfl) (by kernel_rfl) (by kernel_rfl) ?_
              refine wg_take_not (i := 36) rfl rfl rfl rfl rfl (by kernel_rfl) (by kernel_rfl) (by kernel_rfl) (by kernel_rfl) ?_
              refine wg_take_notu (i := 37) rfl rfl rfl rfl (by kernel_rfl) (by kernel_rfl) (by kernel_rfl) (by kernel_rfl) ?_
              refine wg_take_notu (i := 38) rfl rfl rfl rfl (by kernel_rfl) (by kernel_rfl) (by kernel_rfl) (by kernel_rfl) ?_
              refine wg_take_notu (i := 39) rfl rfl rfl rfl (by kernel_rfl) (by kernel_rfl) (by kernel_rfl) (by kernel_rfl) ?_
              refine wg_take_notu (i := 40) rfl rfl rfl rfl (by kernel_rfl) (by kernel_rfl) (by kernel_rfl) (by kernel_rfl) ?_
              refine wg_take_notu (i := 41) rfl rfl rfl rfl (by kernel_rfl) (by kernel_rfl) (by kernel_rfl) (by kernel_rfl) ?_
              refine wg_take_notu (i := 42) rfl rfl rfl rfl (by kernel_rfl) (by kernel_rfl) (by kernel_rfl) (by kernel_rfl) ?_
              refine wg_take_notu (i := 43) rfl rfl rfl rfl (by kernel_rfl) (by kernel_rfl) (by kernel_rfl) (by kernel_rfl) ?_
              refine wg_take_notu (i := 44) rfl rfl rfl rfl (by kernel_rfl) (by kernel_rfl) (by kernel_rfl) (by kernel_rfl) ?_
              refine wg_take_not (i := 45) rfl rfl rfl rfl rfl (by kernel_rfl) (by kernel_rfl) (by kernel_rfl) (by kernel_rfl) ?_
              refine wg_takep (i := 46) rfl (ov_pick_t rfl rfl) rfl rfl rfl (by kernel_rfl) (by kernel_rfl) (by kernel_rfl) rfl ?_
              refine wg_done (by kernel_rfl) ?_
              refine ce_then ?_
              refine cw_true rfl ?_
              refine cw_seq ?_
              refine cw_region ?_
              refine wl_v (ov_assign rfl) rfl rfl rfl ?_
              refine wl_nil ?_
              refine ce_then ?_
              refine cw_ret ?_
              refine ce_block_ret ?_
              refine ce_then_ret ?_
              refine ce_then_ret ?_
              refine ce_block_ret ?_
              refine ce_block_ret ?_
              refine ce_then_ret ?_
              refine ce_then_ret ?_
              refine ce_block_ret ?_
              refine ce_then_ret ?_
              refine ce_results (v := .bool false) (res1 rfl (rv_t rfl)) (fun w' hw => ?_)
              exact ⟨(bf (fun h => c61 (hwr.2 (by have := (h.2.2 i k (by omega) (by omega)).2.1 (by omega); omega)))), (Keep.nil.ss hw).to_new⟩
            ·
              refine wg_take_go (i := 30) rfl rfl rfl (ov_pick_t rfl rfl) rfl (by kernel_rfl) (by kernel_rfl) (by kernel_rfl) (by kernel_rfl) ?_
              refine wg_takep (i := 31) rfl (ov_pick_f rfl rfl) rfl rfl rfl (by kernel_rfl) (by kernel_rfl) (by kernel_rfl) rfl ?_
              refine wg_takep (i := 32) rfl (ov_move rfl) rfl rfl rfl (by kernel_rfl) (by kernel_rfl) (by kernel_rfl) rfl ?_
              refine wg_take_go (i := 33) rfl rfl rfl (ov_move rfl) rfl (by kernel_rfl) (by kernel_rfl) (by kernel_rfl) (by kernel_rfl) ?_
              refine wg_take_go (i := 34) rfl rfl rfl (ov_move rfl) rfl (by kernel_rfl) (by kernel_rfl) (by kernel_rfl) (by kernel_rfl) ?_
              refine wg_take_go_if (i := 35) rfl rfl rfl (ov_eql rfl rfl) rfl (by kernel_rfl) (by kernel_rfl) (by kernel_rfl) (by kernel_rfl) (fun c67 => ?_) (fun c67 => ?_)
              ·
                refine wg_take_go (i := 36) rfl rfl rfl (ov_move rfl) rfl (by kernel_rfl) (by kernel_rfl) (by kernel_rfl) (by kernel_rfl) ?_
                refine wg_take_go (i := 37) rfl rfl rfl (ov_move rfl) rfl (by kernel_rfl) (by kernel_rfl) (by kernel_rfl) (by kernel_rfl) ?_
                refine wg_take_go (i := 38) rfl rfl rfl (ov_move rfl) rfl (by kernel_rfl) (by kernel_rfl) (by kernel_rfl) (by kernel_rfl) ?_
                refine wg_take_go (i := 39) rfl rfl rfl (ov_index (k := i) (c := c) sI50 tI27 rfl rfl (some_holds (q := i * 1) (holds_old oA) (by rw [cells_length fL_len]; have hlt : i < hs.length := (by omega); omega)) (show i < xss.length from (by omega))) rfl (by kernel_rfl) (by kernel_rfl) (by kernel_rfl) (by kernel_rfl) ?_
                refine wg_take_go (i := 40) rfl rfl rfl (ov_load tI27 (holds_old oA) rfl (get_fLn fA (show i < xss.length from (by omega)))) rfl (by kernel_rfl) (by kernel_rfl) (by kernel_rfl) (by kernel_rfl) ?_
                refine wg_take_go (i := 41) rfl rfl rfl (ov_move rfl) rfl (by kernel_rfl) (by kernel_rfl) (by kernel_rfl) (by kernel_rfl) ?_
                refine wg_take_go (i := 42) rfl rfl rfl (ov_index (k := k) (c := (hs.getD i (none, 0, 0)).2.2) sI27 tI3 rfl rfl (some_holds (q := k * 1) (mx_at (mx_old omA) (show i < xss.length from (by omega))) (by rw [cells_length fI_len]; have hlt : k < (xss.getD i []).length := (by omega); omega)) (show k < (xss.getD i []).length from (by omega))) rfl (by kernel_rfl) (by kernel_rfl) (by kernel_rfl) (by kernel_rfl) ?_
                refine wg_take_go (i := 43) rfl rfl rfl (ov_load tI3 (mx_at (mx_old omA) (show i < xss.length from (by omega))) rfl (get_fI (show k < (xss.getD i []).length from (by omega)))) rfl (by kernel_rfl) (by kernel_rfl) (by kernel_rfl) (by kernel_rfl) ?_
                refine wg_take_go_if (i := 44) rfl rfl rfl (ov_neq rfl rfl) rfl (by kernel_rfl) (by kernel_rfl) (by kernel_rfl) (by kernel_rfl) (fun c76 => ?_) (fun c76 => ?_)
                ·
                  refine wg_take_go (i := 45) rfl rfl rfl (ov_pick_t rfl rfl) rfl (by kernel_rfl) (by kernel_rfl) (by kernel_rfl) (by kernel_rfl) ?_
                  refine wg_takep (i := 46) rfl (ov_pick_f rfl rfl) rfl rfl rfl (by kernel_rfl) (by kernel_rfl) (by kernel_rfl) rfl ?_
                  refine wg_done (by kernel_rfl) ?_
                  refine ce_then ?_
                  refine cw_true rfl ?_
                  refine cw_seq ?_
                  refine cw_region ?_
                  refine wl_v (ov_assign rfl) rfl rfl rfl ?_
                  refine wl_nil ?_
                  refine ce_then ?_
                  refine cw_ret ?_
                  refine ce_block_ret ?_
                  refine ce_then_ret ?_
                  refine ce_then_ret ?_
                  refine ce_block_ret ?_
                  refine ce_block_ret ?_
                  refine ce_then_ret ?_
                  refine ce_then_ret ?_
                  refine ce_block_ret ?_
                  refine ce_then_ret ?_
                  refine ce_results (v := .bool false) (res1 rfl (rv_t rfl)) (fun w' hw => ?_)
                  exact ⟨(bf (fun h => by have h9 := (h.2.2 i k (by omega) (by omega)).2.2 (by omega); rw [show k = i from by omega] at he1 h9; rw [show k = i from by omega] at c76; omega)), (Keep.nil.ss hw).to_new⟩
                ·
                  refine wg_take_go (i := 45) rfl rfl rfl (ov_pick_t rfl rfl) rfl (by kernel_rfl) (by kernel_rfl) (by kernel_rfl) (by kernel_rfl) ?_
                  refine wg_takep (i := 46) rfl (ov_pick_f rfl rfl) rfl rfl rfl (by kernel_rfl) (by kernel_rfl) (by kernel_rfl) rfl ?_
                  refine wg_done (by kernel_rfl) ?_
                  refine ce_then ?_
                  refine cw_false rfl ?_
                  refine cw_skip ?_
                  refine ce_block ?_
                  refine ce_then ?_
                  refine cw_region ?_
                  refine wl_v (ov_move rfl) rfl rfl rfl ?_
                  refine wl_v (ov_add (r := ((k + 1 : Nat) : Int)) rfl rfl rfl (by omega)) rfl rfl rfl ?_
                  refine wl_v (ov_assign rfl) rfl rfl rfl ?_
                  refine wl_nil ?_
                  exact fun ac_ w_ hs_ => hR2 (k + 1) ⟨by omega, fun b hb => by rcases Nat.lt_succ_iff_lt_or_eq.1 hb with h | rfl; exact hl2 b h; exact ⟨by omega, by first | exact ⟨fun h9 => by omega, fun h9 => by subst h9; omega⟩ | exact ⟨fun h9 => by omega, fun h9 => by omega⟩⟩⟩ (by omega) ac_ w_ (hs_.weaken (.cons rfl (.cons rfl (.cons rfl (.nil)))) (.nil))
              ·
                refine wg_take_go (i := 36) rfl rfl rfl (ov_move rfl) rfl (by kernel_rfl) (by kernel_rfl) (by kernel_rfl) (by kernel_rfl) ?_
                refine wg_take_not (i := 37) rfl rfl rfl rfl rfl (by kernel_rfl) (by kernel_rfl) (by kernel_rfl) (by kernel_rfl) ?_
                refine wg_take_not (i := 38) rfl rfl rfl rfl rfl (by kernel_rfl) (by kernel_rfl) (by kernel_rfl) (by kernel_rfl) ?_
                refine wg_take_not (i := 39) rfl rfl rfl rfl rfl (by kernel_rfl) (by kernel_rfl) (by kernel_rfl) (by kernel_rfl) ?_
                refine wg_take_not (i := 40) rfl rfl rfl rfl rfl (by kernel_rfl) (by kernel_rfl) (by kernel_rfl) (by kernel_rfl) ?_
                refine wg_take_not (i := 41) rfl rfl rfl rfl rfl (by kernel_rfl) (by kernel_rfl) (by kernel_rfl) (by kernel_rfl) ?_
                refine wg_take_not (i := 42) rfl rfl rfl rfl rfl (by kernel_rfl) (by kernel_rfl) (by kernel_rfl) (by kernel_rfl) ?_
                refine wg_take_not (i := 43) rfl rfl rfl rfl rfl (by kernel_rfl) (by kernel_rfl) (by kernel_rfl) (by kernel_rfl) ?_
                refine wg_take_not (i := 44) rfl rfl rfl rfl rfl (by kernel_rfl) (by kernel_rfl) (by kernel_rfl) (by kernel_rfl) ?_
                refine wg_take_go (i := 45) rfl rfl rfl (ov_pick_f rfl rfl) rfl (by kernel_rfl) (by kernel_rfl) (by kernel_rfl) (by kernel_rfl) ?_
                refine wg_takep (i := 46) rfl (ov_pick_f rfl rfl) rfl rfl rfl (by kernel_rfl) (by kernel_rfl) (by kernel_rfl) rfl ?_
                refine wg_done (by kernel_rfl) ?_
                refine ce_then ?_
                refine cw_false rfl ?_
                refine cw_skip ?_
                refine ce_block ?_
                refine ce_then ?_
                refine cw_region ?_
                refine wl_v (ov_move rfl) rfl rfl rfl ?_
                refine wl_v (ov_add (r := ((k + 1 : Nat) : Int)) rfl rfl rfl (by omega)) rfl rfl rfl ?_
                refine wl_v (ov_assign rfl) rfl rfl rfl ?_
                refine wl_nil ?_
                exact fun ac_ w_ hs_ => hR2 (k + 1) ⟨by omega, fun b hb => by rcases Nat.lt_succ_iff_lt_or_eq.1 hb with h | rfl; exact hl2 b h; exact ⟨by omega, by first | exact ⟨fun h9 => by omega, fun h9 => by subst h9; omega⟩ | exact ⟨fun h9 => by omega, fun h9 => by omega⟩⟩⟩ (by omega) ac_ w_ (hs_.weaken (.cons rfl (.cons rfl (.cons rfl (.nil)))) (.nil))
          ·
            refine wg_take_go (i := 13) rfl rfl rfl (ov_move rfl) rfl (by kernel_rfl) (by kernel_rfl) (by kernel_rfl) (by kernel_rfl) ?_
            refine wg_take_not (i := 14) rfl rfl rfl rfl rfl (by kernel_rfl) (by kernel_rfl) (by kernel_rfl) (by kernel_rfl) ?_
            refine wg_take_not (i := 15) rfl rfl rfl rfl rfl (by kernel_rfl) (by kernel_rfl) (by kernel_rfl) (by kernel_rfl) ?_
            refine wg_take_not (i := 16) rfl rfl rfl rfl rfl (by kernel_rfl) (by kernel_rfl) (by kernel_rfl) (by kernel_rfl) ?_
            refine wg_take_not (i := 17) rfl rfl rfl rfl rfl (by kernel_rfl) (by kernel_rfl) (by kernel_rfl) (by kernel_rfl) ?_
            refine wg_take_not (i := 18) rfl rfl rfl rfl rfl (by kernel_rfl) (by kernel_rfl) (by kernel_rfl) (by kernel_rfl) ?_
            refine wg_take_not (i := 19) rfl rfl rfl rfl rfl (by kernel_rfl) (by kernel_rfl) (by kernel_rfl) (by kernel_rfl) ?_
            refine wg_take_not (i := 20) rfl rfl rfl rfl rfl (by kernel_rfl) (by kernel_rfl) (by kernel_rfl) (by kernel_rfl) ?_
            refine wg_take_not (i := 21) rfl rfl rfl rfl rfl (by kernel_rfl) (by kernel_rfl) (by kernel_rfl) (by kernel_rfl) ?_
            refine wg_take_not (i := 22) rfl rfl rfl rfl rfl (by kernel_rfl) (by kernel_rfl) (by kernel_rfl) (by kernel_rfl) ?_
            refine wg_take_not (i := 23) rfl rfl rfl rfl rfl (by kernel_rfl) (by kernel_rfl) (by kernel_rfl) (by kernel_rfl) ?_
            refine wg_take_not (i := 24) rfl rfl rfl rfl rfl (by kernel_rfl) (by kernel_rfl) (by kernel_rfl) (by kernel_rfl) ?_
            refine wg_take_not (i := 25) rfl rfl rfl rfl rfl (by kernel_rfl) (by kernel_rfl) (by kernel_rfl) (by kernel_rfl) ?_
            refine wg_take_not (i := 26) rfl rfl rfl rfl rfl (by kernel_rfl) (by kernel_rfl) (by kernel_rfl) (by kernel_rfl) ?_
            refine wg_take_not (i := 27) rfl rfl rfl rfl rfl (by kernel_rfl) (by kernel_rfl) (by kernel_rfl) (by kernel_rfl) ?_
            refine wg_take_not (i := 28) rfl rfl rfl rfl rfl (by kernel_rfl) (by kernel_rfl) (by kernel_rfl) (by kernel_rfl) ?_
            refine wg_take_not (i := 29) rfl rfl rfl rfl rfl (by kernel_rfl) (by kernel_rfl) (by kernel_rfl) (by kernel_rfl) ?_
            refine wg_take_go (i := 30) rfl rfl rfl (ov_pick_f rfl rfl) rfl (by kernel_rfl) (by kernel_rfl) (by kernel_rfl) (by kernel_rfl) ?_
            refine wg_takep (i := 31) rfl (ov_pick_f rfl rfl) rfl rfl rfl (by kernel_rfl) (by kernel_rfl) (by kernel_rfl) rfl ?_
            refine wg_takep (i := 32) rfl (ov_move rfl) rfl rfl rfl (by kernel_rfl) (by kernel_rfl) (by kernel_rfl) rfl ?_
            refine wg_take_go (i := 33) rfl rfl rfl (ov_move rfl) rfl (by kernel_rfl) (by kernel_rfl) (by kernel_rfl) (by kernel_rfl) ?_
            refine wg_take_go (i := 34) rfl rfl rfl (ov_move rfl) rfl (by kernel_rfl) (by kernel_rfl) (by kernel_rfl) (by kernel_rfl) ?_
            refine wg_take_go_if (i := 35) rfl rfl rfl (ov_eql rfl rfl) rfl (by kernel_rfl) (by kernel_rfl) (by kernel_rfl) (by kernel_rfl) (fun c67 => ?_) (fun c67 => ?_)
            ·
              refine wg_take_go (i := 36) rfl rfl rfl (ov_move rfl) rfl (by kernel_rfl) (by kernel_rfl) (by kernel_rfl) (by kernel_rfl) ?_
              refine wg_take_go (i := 37) rfl rfl rfl (ov_move rfl) rfl (by kernel_rfl) (by kernel_rfl) (by kernel_rfl) (by kernel_rfl) ?_
              refine wg_take_go (i := 38) rfl rfl rfl (ov_move rfl) rfl (by kernel_rfl) (by kernel_rfl) (by kernel_rfl) (by kernel_rfl) ?_
              refine wg_take_go (i := 39) rfl rfl rfl (ov_index (k := i) (c := c) sI50 tI27 rfl rfl (some_holds (q := i * 1) (holds_old oA) (by rw [cells_length fL_len]; have hlt : i < hs.length := (by omega); omega)) (show i < xss.length from (by omega))) rfl (by kernel_rfl) (by kernel_rfl) (by kernel_rfl) (by kernel_rfl) ?_
              refine wg_take_go (i := 40) rfl rfl rfl (ov_load tI27 (holds_old oA) rfl (get_fLn fA (show i < xss.length from (by omega)))) rfl (by kernel_rfl) (by kernel_rfl) (by kernel_rfl) (by kernel_rfl) ?_
              refine wg_take_go (i := 41) rfl rfl rfl (ov_move rfl) rfl (by kernel_rfl) (by kernel_rfl) (by kernel_rfl) (by kernel_rfl) ?_
              refine wg_take_go (i := 42) rfl rfl rfl (ov_index (k := k) (c := (hs.getD i (none, 0, 0)).2.2) sI27 tI3 rfl rfl (some_holds (q := k * 1) (mx_at (mx_old omA) (show i < xss.length from (by omega))) (by rw [cells_length fI_len]; have hlt : k < (xss.getD i []).length := (by omega); omega)) (show k < (xss.getD i []).length from (by omega))) rfl (by kernel_rfl) (by kernel_rfl) (by kernel_rfl) (by kernel_rfl) ?_
              refine wg_take_go (i := 43) rfl rfl rfl (ov_load tI3 (mx_at (mx_old omA) (show i < xss.length from (by omega))) rfl (get_fI (show k < (xss.getD i []).length from (by omega)))) rfl (by kernel_rfl) (by kernel_rfl) (by kernel_rfl) (by kernel_rfl) ?_
              refine wg_take_go_if (i := 44) rfl rfl rfl (ov_neq rfl rfl) rfl (by kernel_rfl) (by kernel_rfl) (by kernel_rfl) (by kernel_rfl) (fun c76 => ?_) (fun c76 => ?_)
              ·
                refine wg_take_go (i := 45) rfl rfl rfl (ov_pick_t rfl rfl) rfl (by kernel_rfl) (by kernel_rfl) (by kernel_rfl) (by kernel_rfl) ?_
                refine wg_takep (i := 46) rfl (ov_pick_f rfl rfl) rfl rfl rfl (by kernel_rfl) (by kernel_rfl) (by kernel_rfl) rfl ?_
                refine wg_done (by kernel_rfl) ?_
                refine ce_then ?_
                refine cw_true rfl ?_
                refine cw_seq ?_
                refine cw_region ?_
                refine wl_v (ov_assign rfl) rfl rfl rfl ?_
                refine wl_nil ?_
                refine ce_then ?_
                refine cw_ret ?_
                refine ce_block_ret ?_
                refine ce_then_ret ?_
                refine ce_then_ret ?_
                refine ce_block_ret ?_
                refine ce_block_ret ?_
                refine ce_then_ret ?_
                refine ce_then_ret ?_
                refine ce_block_ret ?_
                refine ce_then_ret ?_
                refine ce_results (v := .bool false) (res1 rfl (rv_t rfl)) (fun w' hw => ?_)
                exact ⟨(bf (fun h => by have h9 := (h.2.2 i k (by omega) (by omega)).2.2 (by omega); rw [show k = i from by omega] at he1 h9; rw [show k = i from by omega] at c76; omega)), (Keep.nil.ss hw).to_new⟩
              ·
                refine wg_take_go (i := 45) rfl rfl rfl (ov_pick_t rfl rfl) rfl (by kernel_rfl) (by kernel_rfl) (by kernel_rfl) (by kernel_rfl) ?_
                refine wg_takep (i := 46) rfl (ov_pick_f rfl rfl) rfl rfl rfl (by kernel_rfl) (by kernel_rfl) (by kernel_rfl) rfl ?_
                refine wg_done (by kernel_rfl) ?_
                refine ce_then ?_
                refine cw_false rfl ?_
                refine cw_skip ?_
                refine ce_block ?_
                refine ce_then ?_
                refine cw_region ?_
                refine wl_v (ov_move rfl) rfl rfl rfl ?_
                refine wl_v (ov_add (r := ((k + 1 : Nat) : Int)) rfl rfl rfl (by omega)) rfl rfl rfl ?_
                refine wl_v (ov_assign rfl) rfl rfl rfl ?_
                refine wl_nil ?_
                exact fun ac_ w_ hs_ => hR2 (k + 1) ⟨by omega, fun b hb => by rcases Nat.lt_succ_iff_lt_or_eq.1 hb with h | rfl; exact hl2 b h; exact ⟨by omega, by first | exact ⟨fun h9 => by omega, fun h9 => by subst h9; omega⟩ | exact ⟨fun h9 => by omega, fun h9 => by omega⟩⟩⟩ (by omega) ac_ w_ (hs_.weaken (.cons rfl (.cons rfl (.cons rfl (.nil)))) (.nil))
            ·
              refine wg_take_go (i := 36) rfl rfl rfl (ov_move rfl) rfl (by kernel_rfl) (by kernel_rfl) (by kernel_rfl) (by kernel_rfl) ?_
              refine wg_take_not (i := 37) rfl rfl rfl rfl rfl (by kernel_rfl) (by kernel_rfl) (by kernel_rfl) (by kernel_rfl) ?_
              refine wg_take_not (i := 38) rfl rfl rfl rfl rfl (by kernel_rfl) (by kernel_rfl) (by kernel_rfl) (by kernel_rfl) ?_
              refine wg_take_not (i := 39) rfl rfl rfl rfl rfl (by kernel_rfl) (by kernel_rfl) (by kernel_rfl) (by kernel_rfl) ?_
              refine wg_take_not (i := 40) rfl rfl rfl rfl rfl (by kernel_rfl) (by kernel_rfl) (by kernel_rfl) (by kernel_rfl) ?_
              refine wg_take_not (i := 41) rfl rfl rfl rfl rfl (by kernel_rfl) (by kernel_rfl) (by kernel_rfl) (by kernel_rfl) ?_
              refine wg_take_not (i := 42) rfl rfl rfl rfl rfl (by kernel_rfl) (by kernel_rfl) (by kernel_rfl) (by kernel_rfl) ?_
              refine wg_take_not (i := 43) rfl rfl rfl rfl rfl (by kernel_rfl) (by kernel_rfl) (by kernel_rfl) (by kernel_rfl) ?_
              refine wg_take_not (i := 44) rfl rfl rfl rfl rfl (by kernel_rfl) (by kernel_rfl) (by kernel_rfl) (by kernel_rfl) ?_
              refine wg_take_go (i := 45) rfl rfl rfl (ov_pick_f rfl rfl) rfl (by kernel_rfl) (by kernel_rfl) (by kernel_rfl) (by kernel_rfl) ?_
              refine wg_takep (i := 46) rfl (ov_pick_f rfl rfl) rfl rfl rfl (by kernel_rfl) (by kernel_rfl) (by kernel_rfl) rfl ?_
              refine wg_done (by kernel_rfl) ?_
              refine ce_then ?_
              refine cw_false rfl ?_
              refine cw_skip ?_
              refine ce_block ?_
              refine ce_then ?_
              refine cw_region ?_
              refine wl_v (ov_move rfl) rfl rfl rfl ?_
              refine wl_v (ov_add (r := ((k + 1 : Nat) : Int)) rfl rfl rfl (by omega)) rfl rfl rfl ?_
              refine wl_v (ov_assign rfl) rfl rfl rfl ?_
              refine wl_nil ?_
              exact fun ac_ w_ hs_ => hR2 (k + 1) ⟨by omega, fun b hb => by rcases Nat.lt_succ_iff_lt_or_eq.1 hb with h | rfl; exact hl2 b h; exact ⟨by omega, by first | exact ⟨fun h9 => by omega, fun h9 => by subst h9; omega⟩ | exact ⟨fun h9 => by omega, fun h9 => by omega⟩⟩⟩ (by omega) ac_ w_ (hs_.weaken (.cons rfl (.cons rfl (.cons rfl (.nil)))) (.nil))
        ·
          refine gk (.nil) ?_
          refine wg_takep (i := 8) rfl (ov_not rfl) rfl rfl rfl (by kernel_rfl) (by kernel_rfl) (by kernel_rfl) rfl ?_
          refine wg_takep (i := 9) rfl (ov_move rfl) rfl rfl rfl (by kernel_rfl) (by kernel_rfl) (by kernel_rfl) rfl ?_
          refine wg_take_not (i := 10) rfl rfl rfl rfl rfl (by kernel_rfl) (by kernel_rfl) (by kernel_rfl) (by kernel_rfl) ?_
          refine wg_take_not (i := 11) rfl rfl rfl rfl rfl (by kernel_rfl) (by kernel_rfl) (by kernel_rfl) (by kernel_rfl) ?_
          refine wg_take_not (i := 12) rfl rfl rfl rfl rfl (by kernel_rfl) (by kernel_rfl) (by kernel_rfl) (by kernel_rfl) ?_
          refine wg_take_not (i := 13) rfl rfl rfl rfl rfl (by kernel_rfl) (by kernel_rfl) (by kernel_rfl) (by kernel_rfl) ?_
          refine wg_take_notu (i := 14) rfl rfl rfl rfl (by kernel_rfl) (by kernel_rfl) (by kernel_rfl) (by kernel_rfl) ?_
          refine wg_take_notu (i := 15) rfl rfl rfl rfl (by kernel_rfl) (by kernel_rfl) (by kernel_rfl) (by kernel_rfl) ?_
          refine wg_take_notu (i := 16) rfl rfl rfl rfl (by kernel_rfl) (by kernel_rfl) (by kernel_rfl) (by kernel_rfl) ?_
          refine wg_take_notu (i := 17) rfl rfl rfl rfl (by kernel_rfl) (by kernel_rfl) (by kernel_rfl) (by kernel_rfl) ?_
          refine wg_take_notu (i := 18) rfl rfl rfl rfl (by kernel_rfl) (by kernel_rfl) (by kernel_rfl) (by kernel_rfl) ?_
          refine wg_take_notu (i := 19) rfl rfl rfl rfl (by kernel_rfl) (by kernel_rfl) (by kernel_rfl) (by kernel_rfl) ?_
          refine wg_take_notu (i := 20) rfl rfl rfl rfl (by kernel_rfl) (by kernel_rfl) (by kernel_rfl) (by kernel_rfl) ?_
          refine wg_take_notu (i := 21) rfl rfl rfl rfl (by kernel_rfl) (by kernel_rfl) (by kernel_rfl) (by kernel_rfl) ?_
          refine wg_take_notu (i := 22) rfl rfl rfl rfl (by kernel_rfl) (by kernel_rfl) (by kernel_rfl) (by kernel_rfl) ?_
          refine wg_take_notu (i := 23) rfl rfl rfl rfl (by kernel_rfl) (by kernel_rfl) (by kernel_rfl) (by kernel_rfl) ?_
          refine wg_take_notu (i := 24) rfl rfl rfl rfl (by kernel_rfl) (by kernel_rfl) (by kernel_rfl) (by kernel_rfl) ?_
          refine wg_take_notu (i := 25) rfl rfl rfl rfl (by kernel_rfl) (by kernel_rfl) (by kernel_rfl) (by kernel_rfl) ?_
          refine wg_take_notu (i := 26) rfl rfl rfl rfl (by kernel_rfl) (by kernel_rfl) (by kernel_rfl) (by kernel_rfl) ?_
          refine wg_take_notu (i := 27) rfl rfl rfl rfl (by kernel_rfl) (by kernel_rfl) (by kernel_rfl) (by kernel_rfl) ?_
          refine wg_take_notu (i := 28) rfl rfl rfl rfl (by kernel_rfl) (by kernel_rfl) (by kernel_rfl) (by kernel_rfl) ?_
          refine wg_take_notu (i := 29) rfl rfl rfl rfl (by kernel_rfl) (by kernel_rfl) (by kernel_rfl) (by kernel_rfl) ?_
          refine wg_take_not (i := 30) rfl rfl rfl rfl rfl (by kernel_rfl) (by kernel_rfl) (by kernel_rfl) (by kernel_rfl) ?_
          refine wg_takep (i := 31) rfl (ov_pick_t rfl rfl) rfl rfl rfl (by kernel_rfl) (by kernel_rfl) (by kernel_rfl) rfl ?_
          refine wg_takep (i := 32) rfl (ov_move rfl) rfl rfl rfl (by kernel_rfl) (by kernel_rfl) (by kernel_rfl) rfl ?_
          refine wg_take_not (i := 33) rfl rfl rfl rfl rfl (by kernel_rfl) (by kernel_rfl) (by kernel_rfl) (by kernel_rfl) ?_
          refine wg_take_not (i := 34) rfl rfl rfl rfl rfl (by kernel_rfl) (by kernel_rfl) (by kernel_rfl) (by kernel_rfl) ?_
          refine wg_take_not (i := 35) rfl rfl rfl rfl rfl (by kernel_rfl) (by kernel_rfl) (by kernel_rfl) (by kernel_rfl) ?_
          refine wg_take_not (i := 36) rfl rfl rfl rfl rfl (by kernel_rfl) (by kernel_rfl) (by kernel_rfl) (by kernel_rfl) ?_
          refine wg_take_notu (i := 37) rfl rfl rfl rfl (by kernel_rfl) (by kernel_rfl) (by kernel_rfl) (by kernel_rfl) ?_
          refine wg_take_notu (i := 38) rfl rfl rfl rfl (by kernel_rfl) (by kernel_rfl) (by kernel_rfl) (by kernel_rfl) ?_
          refine wg_take_notu (i := 39) rfl rfl rfl rfl (by kernel_rfl) (by kernel_rfl) (by kernel_rfl) (by kernel_rfl) ?_
          refine wg_take_notu (i := 40) rfl rfl rfl rfl (by kernel_rfl) (by kernel_rfl) (by kernel_rfl) (by kernel_rfl) ?_
          refine wg_take_notu (i := 41) rfl rfl rfl rfl (by kernel_rfl) (by kernel_rfl) (by kernel_rfl) (by kernel_rfl) ?_
          refine wg_take_notu (i := 42) rfl rfl rfl rfl (by kernel_rfl) (by kernel_rfl) (by kernel_rfl) (by kernel_rfl) ?_
          refine wg_take_notu (i := 43) rfl rfl rfl rfl (by kernel_rfl) (by kernel_rfl) (by kernel_rfl) (by kernel_rfl) ?_
          refine wg_take_notu (i := 44) rfl rfl rfl rfl (by kernel_rfl) (by kernel_rfl) (by kernel_rfl) (by kernel_rfl) ?_
          refine wg_take_not (i := 45) rfl rfl rfl rfl rfl (by kernel_rfl) (by kernel_rfl) (by kernel_rfl) (by kernel_rfl) ?_
          refine wg_takep (i := 46) rfl (ov_pick_t rfl rfl) rfl rfl rfl (by kernel_rfl) (by kernel_rfl) (by kernel_rfl) rfl ?_
          refine wg_done (by kernel_rfl) ?_
          refine ce_then ?_
          refine cw_true rfl ?_
          refine cw_seq ?_
          refine cw_region ?_
          refine wl_v (ov_assign rfl) rfl rfl rfl ?_
          refine wl_nil ?_
          refine ce_then ?_
          refine cw_ret ?_
          refine ce_block_ret ?_
          refine ce_then_ret ?_
          refine ce_then_ret ?_
          refine ce_block_ret ?_
          refine ce_block_ret ?_
          refine ce_then_ret ?_
          refine ce_then_ret ?_
          refine ce_block_ret ?_
          refine ce_then_ret ?_
          refine ce_results (v := .bool false) (res1 rfl (rv_t rfl)) (fun w' hw => ?_)
          exact ⟨(bf (fun h => c39 (by have := (h.2.2 i k (by omega) (by omega)).1; omega))), (Keep.nil.ss hw).to_new⟩
      ·
        refine wl_nil ?_
        refine ce_then ?_
        refine cw_false rfl ?_
        refine cw_exit ?_
        refine ce_then_exit ?_
        refine ce_then_exit ?_
        refine ce_hit ?_
        refine ce_block ?_
        refine ce_then ?_
        refine cw_region ?_
        refine wl_v (ov_move rfl) rfl rfl rfl ?_
        refine wl_v (ov_add (r := ((i + 1 : Nat) : Int)) rfl rfl rfl (by omega)) rfl rfl rfl ?_
        refine wl_v (ov_assign rfl) rfl rfl rfl ?_
        refine wl_nil ?_
        exact fun ac_ w_ hs_ => hR1 (i + 1) ⟨by omega, fun a ha => by rcases Nat.lt_succ_iff_lt_or_eq.1 ha with h | rfl; exact hk2 a h; exact fun b hb => hl2 b (by omega)⟩ (by omega) ac_ w_ (hs_.weaken (.cons rfl (.cons rfl (.nil))) (.nil))
    ·
      refine wl_nil ?_
      refine ce_then ?_
      refine cw_false rfl ?_
      refine cw_exit ?_
      refine ce_then_exit ?_
      refine ce_then_exit ?_
      refine ce_hit ?_
      refine ce_then ?_
      refine cw_seq ?_
      refine cw_region ?_
      refine wl_v (ov_move rfl) rfl rfl rfl ?_
      refine wl_v (ov_len (sliceI_spec sI50) rfl) rfl rfl rfl ?_
      refine wl_r (or_call (fv := []) (vs := [.int .i64 (((xss.length : Nat) : Int)), .int .i64 (1), .int .i64 (5)]) (cs := []) en75 rfl rfl (call_v (fun w hw => inRange_c w ((xss.length : Nat) : Int) 1 5 ))) rfl rfl (kt_if rfl (fun c81 => ?_) (fun c81 => ?_))
      ·
        refine wl_v (ov_assign rfl) rfl rfl rfl ?_
        refine wl_nil ?_
        refine ce_then ?_
        refine cw_ret ?_
        refine ce_results (v := .bool true) (res1 rfl (rv_t rfl)) (fun w' hw => ?_)
        exact ⟨(bt (tour_spec.2 ⟨by omega, hlen, fun a ha => hk2 a (by omega)⟩)), (Keep.nil.ss hw).to_new⟩
      ·
        refine wl_v (ov_assign rfl) rfl rfl rfl ?_
        refine wl_nil ?_
        refine ce_then ?_
        refine cw_ret ?_
        refine ce_results (v := .bool false) (res1 rfl (rv_t rfl)) (fun w' hw => ?_)
        exact ⟨(bf (fun h => c81 (by have := h.1; omega))), (Keep.nil.ss hw).to_new⟩
set_option maxRecDepth 100000 in
theorem ScoresI_c (w : World) (A : Option Addr) (n : Nat) (c : Nat) (hs : List Hd) (xss : List (List Int)) (hA : At w A (cells fL hs)) (eA : xss.length = n) (lA : n ≤ c) (fA : NestF hs xss) (mA : Mx w hs xss) (hsz : xss.length ≤ 1048576 ∧ ∀ r ∈ xss, r.length ≤ 1048576) : Calls Try.prog 90 #[.slice A (n) (c)] w (Ret fun rv w' => ∃ A2 c2, ((scV xss).length ≤ c2) ∧ rv = .slice A2 ((scV xss).length) (c2) ∧ New w w' [row 3 1 A2 ((scV xss).length) (c2) (cells fI (scV xss))]) := by
  have oA := hA.atB
  subst eA
  have flA := fA.1
  have omA := Mx.atB mA
  refine fn_enter (args := [.slice A (xss.length) (c)]) Try.func90 rfl Try.ntmps90 rfl (SS.start w) ?_
  refine cw_seq ?_
  refine cw_region ?_
  refine wl_v (ov_assign rfl) rfl rfl rfl ?_
  refine wl_nil ?_
  refine ce_then ?_
  refine cw_seq ?_
  refine cw_seq ?_
  refine cw_region ?_
  refine wl_v (ov_move rfl) rfl rfl rfl ?_
  refine wl_r (or_call (fv := []) (vs := [.slice A (xss.length) (c)]) (cs := []) en88 rfl rfl (call_v (fun w hw => ValidTI_c w A xss.length c hs xss ((holds_old oA) w hw) rfl lA fA ((mx_old omA) w hw) (by first | assumption | omega | (simp; omega))))) rfl rfl (kt_if rfl (fun c6 => ?_) (fun c6 => ?_))
  ·
    have hv : scV xss = rsum xss := if_pos c6
    have hmv : (margV xss).1 = rsum xss := by rw [show margV xss = (rsum xss, csum xss) from if_pos c6.mat]
    refine wl_v (ov_not rfl) rfl rfl rfl ?_
    refine wl_nil ?_
    refine ce_then ?_
    refine cw_false rfl ?_
    refine cw_skip ?_
    refine ce_then ?_
    refine cw_seq ?_
    refine cw_region ?_
    refine wl_v (ov_move rfl) rfl rfl rfl ?_
    refine wl_r (or_call (fv := []) (vs := [.slice A (xss.length) (c)]) (cs := []) en125 rfl rfl (call_x4 (fun w hw => MarginsI_c w A xss.length c hs xss ((holds_old oA) w hw) rfl lA fA ((mx_old omA) w hw) (by first | assumption | omega | (simp; omega))))) rfl rfl (kt4p rfl (fun A2_10 c2_10 A3_10 c3_10 h_10 => ?_))
    refine wl_v (ov_move rfl) rfl rfl rfl ?_
    refine wl_v (ov_extract rfl rfl) rfl rfl rfl ?_
    refine wl_v (ov_extract rfl rfl) rfl rfl rfl ?_
    refine wl_v (ov_assign rfl) rfl rfl rfl ?_
    refine wl_v (ov_assign rfl) rfl rfl rfl ?_
    refine wl_nil ?_
    refine ce_then ?_
    refine cw_seq ?_
    refine cw_region ?_
    refine wl_v (ov_move rfl) rfl rfl rfl ?_
    refine wl_v (ov_assign rfl) rfl rfl rfl ?_
    refine wl_nil ?_
    refine ce_then ?_
    refine cw_ret ?_
    refine ce_results (v := .slice A2_10 ((margV xss).1.length) (c2_10)) (res1 rfl (rv_t rfl)) (fun w' hw => ?_)
    exact ⟨A2_10, c2_10, (by rw [hv, ← hmv]; exact h_10.1), (by rw [hv, hmv]), ((.consE (show row 3 1 A2_10 ((margV xss).1.length) (c2_10) (cells fI ((margV xss).1)) = row 3 1 A2_10 ((scV xss).length) (c2_10) (cells fI (scV xss)) by rw [hv, hmv]) (.head) (.nil) : Keep _ _).ss hw).to_new⟩
  ·
    refine wl_v (ov_not rfl) rfl rfl rfl ?_
    refine wl_nil ?_
    refine ce_then ?_
    refine cw_true rfl ?_
    refine cw_seq ?_
    have hv : scV xss = [] := if_neg c6
    refine ct_none fI 3 1 ?_
    refine cw_region ?_
    refine wl_v (ov_assign rfl) rfl rfl rfl ?_
    refine wl_nil ?_
    refine ce_then ?_
    refine cw_ret ?_
    refine ce_then_ret ?_
    refine ce_results (v := .slice none (0) (0)) (res1 rfl (rv_t rfl)) (fun w' hw => ?_)
    exact ⟨none, 0, (by rw [hv]; exact Nat.le_refl _), (by rw [hv] <;> rfl), ((.consE (show row 3 1 none (0) (0) (cells fI ([])) = row 3 1 none ((scV xss).length) (0) (cells fI (scV xss)) by rw [hv] <;> rfl) (.head) (.nil) : Keep _ _).ss hw).to_new⟩
end Go.Proofs.Ythbfgkeoojghoaa.W35
