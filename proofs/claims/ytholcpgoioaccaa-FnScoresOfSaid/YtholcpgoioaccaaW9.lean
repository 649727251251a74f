/- Walks of functions of the given program: each returns what its Lean function says and leaves the memory that was there as it was. Conditions: those of each theorem. -/
import Derived.Test.YtholcpgoioaccaaSm
import Derived.Test.YtholcpgoioaccaaProg
import Derived.Test.YtholcpgoioaccaaPl
import Derived.Test.YtholcpgoioaccaaPo
import Derived.Test.YtholcpgoioaccaaPd
import Derived.Test.YtholcpgoioaccaaPe
import Derived.Test.YtholcpgoioaccaaPh
import Derived.Test.YtholcpgoioaccaaPm
import Derived.Test.YtholcpgoioaccaaPc
import Derived.Test.YtholcpgoioaccaaPs
import Derived.Test.YtholcpgoioaccaaPt
import Derived.Test.YtholcpgoioaccaaPu
import Derived.Test.YtholcpgoioaccaaPv
import Derived.Test.YtholcpgoioaccaaSo
import Derived.Test.YtholcpgoioaccaaSh
import Derived.Test.YtholcpgoioaccaaT
import Derived.Test.YtholcpgoioaccaaW1
import Derived.Test.YtholcpgoioaccaaW2
import Derived.Test.YtholcpgoioaccaaW6
import Derived.Test.YtholcpgoioaccaaW7
import Derived.KernelRfl
namespace Go.Proofs.Ytholcpgoioaccaa.W9
open Go.Sx Go.RowKit Go.Proofs.Ytholcpgoioaccaa.T Go.Proofs.Ytholcpgoioaccaa.W1 Go.Proofs.Ytholcpgoioaccaa.W2 Go.Proofs.Ytholcpgoioaccaa.W6 Go.Proofs.Ytholcpgoioaccaa.W7
open Go.Plain
set_option linter.unusedVariables false
set_option maxRecDepth 100000 in
theorem validSc_c (w : World) (A : Option Addr) (n : Nat) (c : Nat) (xs : List (Int)) (hA : At w A (cells fI xs)) (eA : xs.length = n) (lA : n ≤ c) (hs : xs.length ≤ 4000000) : Calls Try.prog 49 #[.slice A (n) (c)] w (Ret fun rv w' => rv = .bool (decide (ValidSc xs)) ∧ New w w' []) := by
  have oA := hA.atB
  subst eA
  refine fn_enter (args := [.slice A (xs.length) (c)]) Try.func49 rfl Try.ntmps49 rfl (SS.start w) ?_
  refine cw_seq ?_
  refine cw_region ?_
  refine wl_v (ov_assign rfl) rfl rfl rfl ?_
  refine wl_nil ?_
  refine ce_then ?_
  refine cw_seq ?_
  refine cw_seq ?_
  refine cw_region ?_
  refine wl_v (ov_assign rfl) rfl rfl rfl ?_
  refine wl_nil ?_
  refine ce_then ?_
  refine cw_block ?_
  refine cw_loop1 (fun (k : Nat) => [(0, .slice A (xs.length) (c)), (3, .int .i64 (((k : Nat) : Int)))]) (fun (k : Nat) => []) (fun (k : Nat) => k ≤ xs.length ∧ ∀ x ∈ xs.take k, 0 ≤ x ∧ x ≤ (xs.length : Int) - 1) (fun (k : Nat) => xs.length - k) 0 ⟨by omega, by simp⟩ (.cons rfl (.cons (congrArg (fun z => some (Value.int .i64 z)) (show 0 = ((0 : Nat) : Int) by first | omega | rfl | (simp; done))) (.nil))) (.nil) ?_
  intro R0 k hk hR0
  obtain ⟨hk1, hk2⟩ := hk
  refine cw_seq ?_
  refine cw_seq ?_
  refine cw_region ?_
  refine wl_v (ov_move rfl) rfl rfl rfl ?_
  refine wl_v (ov_move rfl) rfl rfl rfl ?_
  refine wl_v (ov_len (sliceI_spec sI23) rfl) rfl rfl rfl ?_
  refine wl_if (ov_lss rfl rfl) rfl rfl rfl (fun c7 => ?_) (fun c7 => ?_)
  ·
    refine wl_nil ?_
    refine ce_then ?_
    refine cw_true rfl ?_
    refine cw_skip ?_
    refine ce_then ?_
    refine cw_seq ?_
    refine cw_block ?_
    refine cw_seq ?_
    refine cw_region ?_
    refine wl_v (ov_move rfl) rfl rfl rfl ?_
    refine wl_v (ov_move rfl) rfl rfl rfl ?_
    refine wl_v (ov_index (k := k) (c := c) sI23 tI3 rfl rfl (some_holds (q := k * 1) (holds_old oA) (by rw [cells_length fI_len]; have hlt : k < xs.length := (by first | omega | (simp; omega)); omega)) (show k < xs.length from (by first | omega | (simp; omega)))) rfl rfl rfl ?_
    refine wl_v (ov_load tI3 (holds_old oA) rfl (get_fI (show k < xs.length from (by first | omega | (simp; omega))))) rfl rfl rfl ?_
    refine wl_v (ov_move rfl) rfl rfl rfl ?_
    refine wl_v (ov_len (sliceI_spec sI23) rfl) rfl rfl rfl ?_
    refine wl_v (ov_sub (r := ((xs.length : Nat) : Int) - 1) rfl rfl rfl (by omega)) rfl rfl rfl ?_
    refine wl_r (or_call (fv := []) (vs := [.int .i64 ((xs.getD k 0)), .int .i64 (0), .int .i64 (((xs.length : Nat) : Int) - 1)]) (cs := []) en77 rfl rfl (call_v (fun w hw => inRange_c w (xs.getD k 0) 0 (((xs.length : Nat) : Int) - 1) ))) rfl rfl (kt_if rfl (fun c17 => ?_) (fun c17 => ?_))
    ·
      refine wl_v (ov_not rfl) rfl rfl rfl ?_
      refine wl_nil ?_
      refine ce_then ?_
      refine cw_false rfl ?_
      refine cw_skip ?_
      refine ce_block ?_
      refine ce_then ?_
      refine cw_region ?_
      refine wl_v (ov_move rfl) rfl rfl rfl ?_
      refine wl_v (ov_add (r := ((k + 1 : Nat) : Int)) rfl rfl rfl (by omega)) rfl rfl rfl ?_
      refine wl_v (ov_assign rfl) rfl rfl rfl ?_
      refine wl_nil ?_
      exact fun ac_ w_ hs_ => hR0 (k + 1) ⟨by omega, all_take_step 0 (by omega) hk2 (by omega)⟩ (by omega) ac_ w_ (hs_.weaken (.cons rfl (.cons rfl (.nil))) (.nil))
    ·
      refine wl_v (ov_not rfl) rfl rfl rfl ?_
      refine wl_nil ?_
      refine ce_then ?_
      refine cw_true rfl ?_
      refine cw_seq ?_
      refine cw_region ?_
      refine wl_v (ov_assign rfl) rfl rfl rfl ?_
      refine wl_nil ?_
      refine ce_then ?_
      refine cw_ret ?_
      refine ce_block_ret ?_
      refine ce_then_ret ?_
      refine ce_then_ret ?_
      refine ce_block_ret ?_
      refine ce_then_ret ?_
      refine ce_results (v := .bool false) (res1 rfl (rv_t rfl)) (fun w' hw => ?_)
      exact ⟨(bf (fun h => c17 (h.2.2 _ (getD_mem 0 (by omega))))), (Keep.nil.ss hw).to_new⟩
  ·
    refine wl_nil ?_
    refine ce_then ?_
    refine cw_false rfl ?_
    refine cw_exit ?_
    refine ce_then_exit ?_
    refine ce_then_exit ?_
    refine ce_hit ?_
    refine ce_then ?_
    refine cw_seq ?_
    refine cw_region ?_
    refine wl_v (ov_move rfl) rfl rfl rfl ?_
    refine wl_v (ov_len (sliceI_spec sI23) rfl) rfl rfl rfl ?_
    refine wl_r (or_call (fv := []) (vs := [.int .i64 (((xs.length : Nat) : Int)), .int .i64 (1), .int .i64 (5)]) (cs := []) en77 rfl rfl (call_v (fun w hw => inRange_c w ((xs.length : Nat) : Int) 1 5 ))) rfl rfl (kt_if rfl (fun c21 => ?_) (fun c21 => ?_))
    ·
      refine wl_v (ov_assign rfl) rfl rfl rfl ?_
      refine wl_nil ?_
      refine ce_then ?_
      refine cw_ret ?_
      refine ce_results (v := .bool true) (res1 rfl (rv_t rfl)) (fun w' hw => ?_)
      exact ⟨(bt ⟨by omega, by omega, take_all (k := k) (by omega) hk2⟩), (Keep.nil.ss hw).to_new⟩
    ·
      refine wl_v (ov_assign rfl) rfl rfl rfl ?_
      refine wl_nil ?_
      refine ce_then ?_
      refine cw_ret ?_
      refine ce_results (v := .bool false) (res1 rfl (rv_t rfl)) (fun w' hw => ?_)
      exact ⟨(bf (fun h => c21 (by have h1 := h.1; have h2 := h.2.1; omega))), (Keep.nil.ss hw).to_new⟩
set_option maxRecDepth 100000 in
theorem scoreSlacks_c (w : World) (A : Option Addr) (n : Nat) (c : Nat) (xs : List (Int)) (hA : At w A (cells fI xs)) (eA : xs.length = n) (lA : n ≤ c) (hs : Small xs) : Calls Try.prog 51 #[.slice A (n) (c)] w (Ret fun rv w' => ∃ A2 c2, (n ≤ c2) ∧ rv = .slice A2 (n) (c2) ∧ New w w' [row 3 1 A2 (n) (c2) (cells fI (scoreL xs))]) := by
  have oA := hA.atB
  subst eA
  have hlen := hs.1
  have hfl := fall_length xs
  have hsm := small_fall hs
  refine fn_enter (args := [.slice A (xs.length) (c)]) Try.func51 rfl Try.ntmps51 rfl (SS.start w) ?_
  refine cw_seq ?_
  refine cw_region ?_
  refine wl_v (ov_assign rfl) rfl rfl rfl ?_
  refine wl_nil ?_
  refine ce_then ?_
  refine cw_seq ?_
  refine cw_region ?_
  refine wl_v (ov_move rfl) rfl rfl rfl ?_
  refine wl_r (or_call (fv := []) (vs := [.slice A (xs.length) (c)]) (cs := []) en80 rfl rfl (call_x2 (fun w hw => fallingS_c w A xs.length c xs ((holds_old oA) w hw) rfl lA (by first | assumption | omega | (simp; omega))))) rfl rfl (kt2p rfl (fun A2_7 c2_7 h_7 => ?_))
  refine wl_v (ov_assign rfl) rfl rfl rfl ?_
  refine wl_nil ?_
  refine ce_then ?_
  refine cw_seq ?_
  refine cw_region ?_
  refine wl_r (or_buildSlice (e := 3) (size := 1) (is := []) (vs := []) (cs := cells fI ([])) rfl rfl rfl (by decide) (fun _ => by kernel_rfl)) rfl rfl (kt1 rfl (fun g8 => ?_))
  refine wl_v (ov_assign rfl) rfl rfl rfl ?_
  refine wl_nil ?_
  refine ce_then ?_
  refine cw_seq ?_
  refine cw_seq ?_
  refine cw_region ?_
  refine wl_v (ov_assign rfl) rfl rfl rfl ?_
  refine wl_nil ?_
  refine ce_then ?_
  refine cw_block ?_
  refine cw_loop3 (fun (q : Nat) (A2 : Option Addr) (c2 : Nat) => [(0, .slice A (xs.length) (c)), (2, .slice none (0) (0)), (3, .slice A2_7 (xs.length) (c2_7)), (4, .slice A2 (q) (c2)), (5, .int .i64 (((q + 1 : Nat) : Int)))]) (fun (q : Nat) (A2 : Option Addr) (c2 : Nat) => [row 3 1 A2 (q) (c2) (cells fI ((List.range q).map (overAt xs))), row 3 1 A2_7 (xs.length) (c2_7) (cells fI (fall xs))]) (fun (q : Nat) (A2 : Option Addr) (c2 : Nat) => q ≤ xs.length ∧ q ≤ c2) (fun (q : Nat) (A2 : Option Addr) (c2 : Nat) => xs.length - q) 0 (some ⟨g8, 0, none⟩) 0 ⟨by omega, Nat.le_refl _⟩ (.cons rfl (.cons rfl (.cons rfl (.cons rfl (.cons (congrArg (fun z => some (Value.int .i64 z)) (show 1 = ((0 + 1 : Nat) : Int) by first | omega | rfl | (simp; done))) (.nil)))))) (.consE (show row 3 1 (some ⟨g8, 0, none⟩) (0) (0) (cells fI ([])) = row 3 1 (some ⟨g8, 0, none⟩) (0) (0) (cells fI ((List.range 0).map (overAt xs))) by rfl) (.head) (.cons (.head) (.nil))) ?_
  intro R0 q A2 c2 hk hR0
  obtain ⟨hk1, hk2⟩ := hk
  have hpb := prod_bd2 (k := q + 1) (by omega)
  have hpn := prod_nn (q + 1)
  have hdl : ((fall xs).drop (xs.length - (q + 1))).length = xs.length - (xs.length - (q + 1)) := by rw [List.length_drop, hfl]
  refine cw_seq ?_
  refine cw_seq ?_
  refine cw_region ?_
  refine wl_v (ov_move rfl) rfl rfl rfl ?_
  refine wl_v (ov_move rfl) rfl rfl rfl ?_
  refine wl_v (ov_len (sliceI_spec sI23) rfl) rfl rfl rfl ?_
  refine wl_if (ov_leq rfl rfl) rfl rfl rfl (fun c12 => ?_) (fun c12 => ?_)
  ·
    refine wl_nil ?_
    refine ce_then ?_
    refine cw_true rfl ?_
    refine cw_skip ?_
    refine ce_then ?_
    refine cw_seq ?_
    refine cw_block ?_
    refine cw_region ?_
    refine wl_v (ov_move rfl) rfl rfl rfl ?_
    refine wl_v (ov_move rfl) rfl rfl rfl ?_
    refine wl_v (ov_move rfl) rfl rfl rfl ?_
    refine wl_v (ov_len (sliceI_spec sI23) rfl) rfl rfl rfl ?_
    refine wl_v (ov_move rfl) rfl rfl rfl ?_
    refine wl_v (ov_sub (r := ((xs.length - (q + 1) : Nat) : Int)) rfl rfl (by omega) (by omega)) rfl rfl rfl ?_
    refine wl_v (ov_slice_l (l := xs.length - (q + 1)) sI23 tI3 rfl rfl (by omega)) rfl rfl rfl ?_
    refine wl_r (or_call (fv := []) (vs := [.slice (dropA A2_7 c2_7 (xs.length - (q + 1)) 1) (xs.length - (xs.length - (q + 1))) (c2_7 - (xs.length - (q + 1)))]) (cs := []) en64 rfl rfl (call_v (fun w hw => sum_c w (dropA A2_7 c2_7 (xs.length - (q + 1)) 1) (xs.length - (xs.length - (q + 1))) (c2_7 - (xs.length - (q + 1))) ((fall xs).drop (xs.length - (q + 1))) ((holds_dropC (l := (xs.length - (q + 1))) fI_len (holds_row (List.Mem.tail _ (List.Mem.head _))) (by first | exact h_7 | omega)) w hw) hdl (by omega) (hsm.drop _)))) rfl rfl (kt0 rfl ?_)
    refine wl_v (ov_move rfl) rfl rfl rfl ?_
    refine wl_v (ov_move rfl) rfl rfl rfl ?_
    refine wl_v (ov_sub (r := ((q + 1 : Nat) : Int) - 1) rfl rfl rfl (by omega)) rfl rfl rfl ?_
    refine wl_v (ov_mul (r := ((q + 1 : Nat) : Int) * (((q + 1 : Nat) : Int) - 1)) rfl rfl rfl (by omega)) rfl rfl rfl ?_
    refine wl_v (ov_quo (r := (((q + 1 : Nat) : Int) * (((q + 1 : Nat) : Int) - 1)) / 2) rfl rfl (by omega) (by omega) rfl) rfl rfl rfl ?_
    refine wl_v (ov_sub (r := (total ((fall xs).drop (xs.length - (q + 1)))) - ((((q + 1 : Nat) : Int) * (((q + 1 : Nat) : Int) - 1)) / 2)) rfl rfl rfl (by have h1 := total_len (hsm.drop (xs.length - (q + 1))); omega)) rfl rfl rfl ?_
    refine wl_r (or_buildSlice (e := 3) (size := 1) (is := [0]) (vs := [.int .i64 ((total ((fall xs).drop (xs.length - (q + 1)))) - ((((q + 1 : Nat) : Int) * (((q + 1 : Nat) : Int) - 1)) / 2))]) (cs := cells fI ([(total ((fall xs).drop (xs.length - (q + 1)))) - ((((q + 1 : Nat) : Int) * (((q + 1 : Nat) : Int) - 1)) / 2)])) rfl rfl rfl (by decide) (fun _ => by kernel_rfl)) rfl rfl (kt1 rfl (fun g29 => ?_))
    refine wl_r (or_append (c2 := 1) sI23 tI3 rfl (by decide) rfl rfl (.tail .head) (holds_row (List.Mem.head _)) (by rw [cells_length fI_len]; try simp) (one_cells fI_one _) cells_append (by omega) (by omega)) rfl rfl (kt2p rfl (fun A30 c30 h30 => ?_))
    refine wl_v (ov_assign rfl) rfl rfl rfl ?_
    refine wl_nil ?_
    refine ce_block ?_
    refine ce_then ?_
    refine cw_region ?_
    refine wl_v (ov_move rfl) rfl rfl rfl ?_
    refine wl_v (ov_add (r := (((q + 1) + 1 : Nat) : Int)) rfl rfl rfl (by omega)) rfl rfl rfl ?_
    refine wl_v (ov_assign rfl) rfl rfl rfl ?_
    refine wl_nil ?_
    exact fun ac_ w_ hs_ => hR0 (q + 1) A30 c30 ⟨by omega, h30⟩ (by omega) ac_ w_ (hs_.weaken (.cons rfl (.cons rfl (.cons rfl (.cons rfl (.cons rfl (.nil)))))) (.consE (show row 3 1 A30 (q + 1) (c30) (cells fI (((List.range q).map (overAt xs)) ++ ([(total ((fall xs).drop (xs.length - (q + 1)))) - ((((q + 1 : Nat) : Int) * (((q + 1 : Nat) : Int) - 1)) / 2)]))) = row 3 1 A30 ((q + 1)) (c30) (cells fI ((List.range (q + 1)).map (overAt xs))) by rw [map_range_succ, fall_drop] <;> rfl) (.head) (.cons (.tail .head) (.nil))))
  ·
    refine wl_nil ?_
    refine ce_then ?_
    refine cw_false rfl ?_
    refine cw_exit ?_
    refine ce_then_exit ?_
    refine ce_then_exit ?_
    refine ce_hit ?_
    refine ce_then ?_
    refine cw_seq ?_
    refine cw_region ?_
    refine wl_v (ov_move rfl) rfl rfl rfl ?_
    refine wl_v (ov_assign rfl) rfl rfl rfl ?_
    refine wl_nil ?_
    refine ce_then ?_
    refine cw_ret ?_
    refine ce_results (v := .slice A2 (q) (c2)) (res1 rfl (rv_t rfl)) (fun w' hw => ?_)
    exact ⟨A2, c2, (by omega), (by rw [show xs.length = q from by omega]), ((.consE (show row 3 1 A2 (q) (c2) (cells fI ((List.range q).map (overAt xs))) = row 3 1 A2 (xs.length) (c2) (cells fI (scoreL xs)) by rw [scoreL, show xs.length = q from by omega]) (.head) (.nil) : Keep _ _).ss hw).to_new⟩
set_option maxRecDepth 100000 in
theorem over_c (w : World) (A : Option Addr) (n : Nat) (c : Nat) (xs : List (Int)) (hA : At w A (cells fI xs)) (eA : xs.length = n) (lA : n ≤ c) (hs : Small xs) : Calls Try.prog 48 #[.slice A (n) (c)] w (Ret fun rv w' => ∃ A2 c2, (n ≤ c2) ∧ rv = .slice A2 (n) (c2) ∧ New w w' [row 3 1 A2 (n) (c2) (cells fI (scoreL xs))]) := by
  have oA := hA.atB
  subst eA
  have hlen := hs.1
  have hfl := fall_length xs
  have hsr := small_rev hs
  refine fn_enter (args := [.slice A (xs.length) (c)]) Try.func48 rfl Try.ntmps48 rfl (SS.start w) ?_
  refine cw_seq ?_
  refine cw_region ?_
  refine wl_v (ov_assign rfl) rfl rfl rfl ?_
  refine wl_nil ?_
  refine ce_then ?_
  refine cw_seq ?_
  refine cw_region ?_
  refine wl_v (ov_move rfl) rfl rfl rfl ?_
  refine wl_r (or_call (fv := []) (vs := [.slice A (xs.length) (c)]) (cs := []) en43 rfl rfl (call_x2 (fun w hw => fallingI_c w A xs.length c xs ((holds_old oA) w hw) rfl lA (by first | assumption | omega | (simp; omega))))) rfl rfl (kt2p rfl (fun A2_7 c2_7 h_7 => ?_))
  refine wl_v (ov_assign rfl) rfl rfl rfl ?_
  refine wl_nil ?_
  refine ce_then ?_
  refine cw_seq ?_
  refine cw_region ?_
  refine wl_v (ov_move rfl) rfl rfl rfl ?_
  refine wl_r (or_call (fv := []) (vs := [.slice A2_7 (xs.length) (xs.length)]) (cs := []) en79 rfl rfl (call_m (.head) (fun w hw => reverse_c w _ _ _ A2_7 xs.length c2_7 xs.length (fall xs) (fall_length _) (Nat.le_refl _) (by omega) hw))) rfl rfl (kt0 rfl ?_)
  refine wl_nil ?_
  refine ce_then ?_
  refine cw_seq ?_
  refine cw_region ?_
  refine wl_v (ov_move rfl) rfl rfl rfl ?_
  refine wl_v (ov_len (sliceI_spec sI23) rfl) rfl rfl rfl ?_
  refine wl_r (or_makeSlice (m := xs.length) sI23 tI3 rfl rfl (made_fI _) (by omega) (show xs.length ≤ maxLen by simp only [maxLen]; omega)) rfl rfl (kt1 rfl (fun g12 => ?_))
  refine wl_v (ov_assign rfl) rfl rfl rfl ?_
  refine wl_nil ?_
  refine ce_then ?_
  refine cw_seq ?_
  refine cw_seq ?_
  refine cw_region ?_
  refine wl_v (ov_move rfl) rfl rfl rfl ?_
  refine wl_v (ov_len (sliceI_spec sI23) rfl) rfl rfl rfl ?_
  refine wl_v (ov_move rfl) rfl rfl rfl ?_
  refine wl_nil ?_
  refine ce_then ?_
  refine cw_block ?_
  refine cw_loop1 (fun (k : Nat) => [(2, .slice none (0) (0)), (3, .slice A2_7 (xs.length) (xs.length)), (4, .slice (some ⟨g12, 0, none⟩) (xs.length) (xs.length)), (14, .int .i64 (((xs.length : Nat) : Int))), (15, .int .i64 (((k : Nat) : Int)))]) (fun (k : Nat) => [row 3 1 (some ⟨g12, 0, none⟩) (xs.length) (xs.length) (cells fI ((List.range k).map (overAt xs) ++ List.replicate (xs.length - k) 0)), row 3 1 A2_7 (xs.length) (c2_7) (cells fI ((fall xs).reverse))]) (fun (k : Nat) => k ≤ xs.length) (fun (k : Nat) => xs.length - k) 0 (by omega) (.cons rfl (.cons rfl (.cons rfl (.cons rfl (.cons (congrArg (fun z => some (Value.int .i64 z)) (show 0 = ((0 : Nat) : Int) by first | omega | rfl | (simp; done))) (.nil)))))) (.consE (show row 3 1 (some ⟨g12, 0, none⟩) (xs.length) (xs.length) (cells fI (List.replicate xs.length 0)) = row 3 1 (some ⟨g12, 0, none⟩) (xs.length) (xs.length) (cells fI ((List.range 0).map (overAt xs) ++ List.replicate (xs.length - 0) 0)) by simp) (.head) (.cons (.head) (.nil))) ?_
  intro R0 k hk hR0
  have hpb := prod_bd2 (k := k + 1) (by omega)
  have hpn := prod_nn (k + 1)
  have htl : ((fall xs).reverse.take (k + 1)).length ≤ 100 := by rw [List.length_take, List.length_reverse]; omega
  have h1 := total_len (hsr.take (k + 1))
  refine cw_seq ?_
  refine cw_region ?_
  refine wl_if (ov_lss rfl rfl) rfl rfl rfl (fun c16 => ?_) (fun c16 => ?_)
  ·
    refine wl_nil ?_
    refine ce_then ?_
    refine cw_seq ?_
    refine cw_true rfl ?_
    refine cw_skip ?_
    refine ce_then ?_
    refine cw_seq ?_
    refine cw_block ?_
    refine cw_seq ?_
    refine cw_region ?_
    refine wl_v (ov_move rfl) rfl rfl rfl ?_
    refine wl_v (ov_assign rfl) rfl rfl rfl ?_
    refine wl_nil ?_
    refine ce_then ?_
    refine cw_region ?_
    refine wl_v (ov_move rfl) rfl rfl rfl ?_
    refine wl_v (ov_move rfl) rfl rfl rfl ?_
    refine wl_v (ov_move rfl) rfl rfl rfl ?_
    refine wl_v (ov_move rfl) rfl rfl rfl ?_
    refine wl_v (ov_add (r := ((k + 1 : Nat) : Int)) rfl rfl rfl (by omega)) rfl rfl rfl ?_
    refine wl_v (ov_slice_h (h := k + 1) sI23 tI3 rfl rfl (by omega)) rfl rfl rfl ?_
    refine wl_r (or_call (fv := []) (vs := [.slice A2_7 (k + 1) (xs.length)]) (cs := []) en44 rfl rfl (call_v (fun w hw => sumI_c w A2_7 (k + 1) xs.length (((fall xs).reverse).take (k + 1)) ((holds_takeC (k := (k + 1)) fI_len (holds_row (List.Mem.tail _ (List.Mem.head _)))) w hw) (by rw [List.length_take, List.length_reverse, hfl]; omega) (by omega) (hsr.take _)))) rfl rfl (kt0 rfl ?_)
    refine wl_v (ov_move rfl) rfl rfl rfl ?_
    refine wl_v (ov_add (r := ((k + 1 : Nat) : Int)) rfl rfl rfl (by omega)) rfl rfl rfl ?_
    refine wl_v (ov_move rfl) rfl rfl rfl ?_
    refine wl_v (ov_mul (r := ((k + 1 : Nat) : Int) * (((k + 1 : Nat) : Int) - 1)) rfl rfl (by rw [show ((k + 1 : Nat) : Int) - 1 = (k : Int) from by omega]) (by omega)) rfl rfl rfl ?_
    refine wl_v (ov_quo (r := (((k + 1 : Nat) : Int) * (((k + 1 : Nat) : Int) - 1)) / 2) rfl rfl (by omega) (by omega) rfl) rfl rfl rfl ?_
    refine wl_v (ov_sub (r := (total (((fall xs).reverse).take (k + 1))) - ((((k + 1 : Nat) : Int) * (((k + 1 : Nat) : Int) - 1)) / 2)) rfl rfl rfl (by omega)) rfl rfl rfl ?_
    refine wl_v (ov_index (k := k) (c := xs.length) sI23 tI3 rfl rfl (some_holds (q := k * 1) (holds_row (List.Mem.head _)) (by rw [cells_length fI_len]; have hlt : k < ((List.range k).map (overAt xs) ++ List.replicate (xs.length - k) 0).length := (by first | omega | (simp; omega)); omega)) (show k < xs.length from (by first | omega | (simp; omega)))) rfl rfl rfl ?_
    refine wl_r0 (or_store_row (vs := [.int .i64 ((total (((fall xs).reverse).take (k + 1))) - ((((k + 1 : Nat) : Int) * (((k + 1 : Nat) : Int) - 1)) / 2))]) (cs' := cells fI (((List.range k).map (overAt xs) ++ List.replicate (xs.length - k) 0).set k ((total (((fall xs).reverse).take (k + 1))) - ((((k + 1 : Nat) : Int) * (((k + 1 : Nat) : Int) - 1)) / 2)))) (.head) tI3 rfl rfl rfl rfl (by rw [cells_length fI_len]; have hlt := (show k < ((List.range k).map (overAt xs) ++ List.replicate (xs.length - k) 0).length from (by first | omega | (simp; omega))); simp only [List.length_cons, List.length_nil]; omega) (by simp) (cells_splice fI_len (show k < ((List.range k).map (overAt xs) ++ List.replicate (xs.length - k) 0).length from (by first | omega | (simp; omega))) ((total (((fall xs).reverse).take (k + 1))) - ((((k + 1 : Nat) : Int) * (((k + 1 : Nat) : Int) - 1)) / 2)))) rfl rfl (kn0 ?_)
    refine wl_nil ?_
    refine ce_block ?_
    refine ce_then ?_
    refine cw_region ?_
    refine wl_v (ov_add (r := ((k + 1 : Nat) : Int)) rfl rfl rfl (by omega)) rfl rfl rfl ?_
    refine wl_v (ov_move rfl) rfl rfl rfl ?_
    refine wl_nil ?_
    exact fun ac_ w_ hs_ => hR0 (k + 1) (by omega) (by omega) ac_ w_ (hs_.weaken (.cons rfl (.cons rfl (.cons rfl (.cons rfl (.cons rfl (.nil)))))) (.consE (show row 3 1 (some ⟨g12, 0, none⟩) (xs.length) (xs.length) (cells fI (((List.range k).map (overAt xs) ++ List.replicate (xs.length - k) 0).set k ((total (((fall xs).reverse).take (k + 1))) - ((((k + 1 : Nat) : Int) * (((k + 1 : Nat) : Int) - 1)) / 2)))) = row 3 1 (some ⟨g12, 0, none⟩) (xs.length) (xs.length) (cells fI ((List.range (k + 1)).map (overAt xs) ++ List.replicate (xs.length - (k + 1)) 0)) by rw [fall_rev]; exact congrArg (fun z => row 3 1 (some ⟨g12, 0, none⟩) (xs.length) (xs.length) (cells fI z)) (made_step (f := overAt xs) (by omega))) (.head) (.cons (.head) (.nil))))
  ·
    refine wl_nil ?_
    refine ce_then ?_
    refine cw_seq ?_
    refine cw_false rfl ?_
    refine cw_exit ?_
    refine ce_then_exit ?_
    refine ce_then_exit ?_
    refine ce_hit ?_
    refine ce_then ?_
    refine cw_seq ?_
    refine cw_region ?_
    refine wl_v (ov_move rfl) rfl rfl rfl ?_
    refine wl_v (ov_assign rfl) rfl rfl rfl ?_
    refine wl_nil ?_
    refine ce_then ?_
    refine cw_ret ?_
    refine ce_results (v := .slice (some ⟨g12, 0, none⟩) (xs.length) (xs.length)) (res1 rfl (rv_t rfl)) (fun w' hw => ?_)
    exact ⟨some ⟨g12, 0, none⟩, xs.length, (Nat.le_refl _), rfl, ((.consE (show row 3 1 (some ⟨g12, 0, none⟩) (xs.length) (xs.length) (cells fI ((List.range k).map (overAt xs) ++ List.replicate (xs.length - k) 0)) = row 3 1 (some ⟨g12, 0, none⟩) (xs.length) (xs.length) (cells fI (scoreL xs)) by rw [scoreL, show k = xs.length from by omega]; simp) (.head) (.nil) : Keep _ _).ss hw).to_new⟩
set_option maxRecDepth 100000 in
theorem isScores_c (w : World) (A : Option Addr) (n : Nat) (c : Nat) (xs : List (Int)) (hA : At w A (cells fI xs)) (eA : xs.length = n) (lA : n ≤ c) (hs : ValidSc xs) : Calls Try.prog 50 #[.slice A (n) (c)] w (Ret fun rv w' => rv = .bool (decide (noneNeg (scoreL xs) ∧ (scoreL xs).getD (xs.length - 1) 0 = 0)) ∧ New w w' []) := by
  have oA := hA.atB
  subst eA
  have hl0 := hs.1
  have hl1 := hs.2.1
  have hll : (scoreL xs).length = xs.length := by simp [scoreL]
  refine fn_enter (args := [.slice A (xs.length) (c)]) Try.func50 rfl Try.ntmps50 rfl (SS.start w) ?_
  refine cw_seq ?_
  refine cw_region ?_
  refine wl_v (ov_assign rfl) rfl rfl rfl ?_
  refine wl_nil ?_
  refine ce_then ?_
  refine cw_seq ?_
  refine cw_region ?_
  refine wl_v (ov_move rfl) rfl rfl rfl ?_
  refine wl_r (or_call (fv := []) (vs := [.slice A (xs.length) (c)]) (cs := []) en51 rfl rfl (call_x2 (fun w hw => scoreSlacks_c w A xs.length c xs ((holds_old oA) w hw) rfl lA hs.small))) rfl rfl (kt2p rfl (fun A2_5 c2_5 h_5 => ?_))
  refine wl_v (ov_assign rfl) rfl rfl rfl ?_
  refine wl_nil ?_
  refine ce_then ?_
  refine cw_seq ?_
  refine cw_region ?_
  refine wl_v (ov_move rfl) rfl rfl rfl ?_
  refine wl_r (or_call (fv := []) (vs := [.slice A2_5 (xs.length) (c2_5)]) (cs := []) en63 rfl rfl (call_v (fun w hw => least_c w A2_5 xs.length c2_5 (scoreL xs) ((holds_row (List.Mem.head _)) w hw) hll h_5 (by omega)))) rfl rfl (kt0 rfl ?_)
  refine wl_if (ov_eql rfl rfl) rfl rfl rfl (fun c8 => ?_) (fun c8 => ?_)
  ·
    refine wl_v (ov_move rfl) rfl rfl rfl ?_
    refine wl_go rfl rfl ?_
    refine wl_v (ov_move rfl) rfl rfl rfl ?_
    refine wl_go rfl rfl ?_
    refine wl_v (ov_move rfl) rfl rfl rfl ?_
    refine wl_go rfl rfl ?_
    refine wl_v (ov_len (sliceI_spec sI23) rfl) rfl rfl rfl ?_
    refine wl_go rfl rfl ?_
    refine wl_v (ov_sub (r := ((xs.length - 1 : Nat) : Int)) rfl rfl (by omega) (by omega)) rfl rfl rfl ?_
    refine wl_go rfl rfl ?_
    refine wl_v (ov_index (k := xs.length - 1) (c := c2_5) sI23 tI3 rfl rfl (some_holds (q := (xs.length - 1) * 1) (holds_row (List.Mem.head _)) (by rw [cells_length fI_len]; have hlt : xs.length - 1 < (scoreL xs).length := (by first | omega | (simp; omega)); omega)) (show xs.length - 1 < xs.length from (by first | omega | (simp; omega)))) rfl rfl rfl ?_
    refine wl_go rfl rfl ?_
    refine wl_v (ov_load tI3 (holds_row (List.Mem.head _)) rfl (get_fI (show xs.length - 1 < (scoreL xs).length from (by first | omega | (simp; omega))))) rfl rfl rfl ?_
    refine wl_go rfl rfl ?_
    refine wl_if (ov_eql rfl rfl) rfl rfl rfl (fun c16 => ?_) (fun c16 => ?_)
    ·
      refine wl_v (ov_pick_t rfl rfl) rfl rfl rfl ?_
      refine wl_v (ov_assign rfl) rfl rfl rfl ?_
      refine wl_nil ?_
      refine ce_then ?_
      refine cw_ret ?_
      refine ce_results (v := .bool true) (res1 rfl (rv_t rfl)) (fun w' hw => ?_)
      exact ⟨(bt ⟨leastTo_all.1 (by rw [hll]; exact c8), c16⟩), (Keep.nil.ss hw).to_new⟩
    ·
      refine wl_v (ov_pick_t rfl rfl) rfl rfl rfl ?_
      refine wl_v (ov_assign rfl) rfl rfl rfl ?_
      refine wl_nil ?_
      refine ce_then ?_
      refine cw_ret ?_
      refine ce_results (v := .bool false) (res1 rfl (rv_t rfl)) (fun w' hw => ?_)
      exact ⟨(bf (fun h => c16 h.2)), (Keep.nil.ss hw).to_new⟩
  ·
    refine wl_v (ov_move rfl) rfl rfl rfl ?_
    refine wl_not rfl rfl rfl rfl rfl rfl ?_
    refine wl_not rfl rfl rfl rfl rfl rfl ?_
    refine wl_not rfl rfl rfl rfl rfl rfl ?_
    refine wl_not rfl rfl rfl rfl rfl rfl ?_
    refine wl_not rfl rfl rfl rfl rfl rfl ?_
    refine wl_not rfl rfl rfl rfl rfl rfl ?_
    refine wl_not rfl rfl rfl rfl rfl rfl ?_
    refine wl_v (ov_pick_f rfl rfl) rfl rfl rfl ?_
    refine wl_v (ov_assign rfl) rfl rfl rfl ?_
    refine wl_nil ?_
    refine ce_then ?_
    refine cw_ret ?_
    refine ce_results (v := .bool false) (res1 rfl (rv_t rfl)) (fun w' hw => ?_)
    exact ⟨(bf (fun h => c8 (by rw [← hll]; exact leastTo_all.2 h.1))), (Keep.nil.ss hw).to_new⟩
set_option maxRecDepth 100000 in
theorem IsScoresI_c (w : World) (A : Option Addr) (n : Nat) (c : Nat) (xs : List (Int)) (hA : At w A (cells fI xs)) (eA : xs.length = n) (lA : n ≤ c) (hs : xs.length ≤ 4000000) : Calls Try.prog 21 #[.slice A (n) (c)] w (Ret fun rv w' => rv = .bool (decide (ValidSc xs ∧ noneNeg (scoreL xs) ∧ (scoreL xs).getD (xs.length - 1) 0 = 0)) ∧ New w w' []) := by
  have oA := hA.atB
  subst eA
  refine fn_enter (args := [.slice A (xs.length) (c)]) Try.func21 rfl Try.ntmps21 rfl (SS.start w) ?_
  refine cw_seq ?_
  refine cw_region ?_
  refine wl_v (ov_assign rfl) rfl rfl rfl ?_
  refine wl_nil ?_
  refine ce_then ?_
  refine cw_seq ?_
  refine cw_seq ?_
  refine cw_region ?_
  refine wl_v (ov_move rfl) rfl rfl rfl ?_
  refine wl_v (ov_len (sliceI_spec sI23) rfl) rfl rfl rfl ?_
  refine wl_r (or_call (fv := []) (vs := [.int .i64 (((xs.length : Nat) : Int)), .int .i64 (1), .int .i64 (5)]) (cs := []) en40 rfl rfl (call_v (fun w hw => in_c w ((xs.length : Nat) : Int) 1 5 ))) rfl rfl (kt_if rfl (fun c6 => ?_) (fun c6 => ?_))
  ·
    refine wl_v (ov_not rfl) rfl rfl rfl ?_
    refine wl_v (ov_move rfl) rfl rfl rfl ?_
    refine wl_go rfl rfl ?_
    refine wl_v (ov_move rfl) rfl rfl rfl ?_
    refine wl_go rfl rfl ?_
    refine wl_v (ov_move rfl) rfl rfl rfl ?_
    refine wl_go rfl rfl ?_
    refine wl_v (ov_len (sliceI_spec sI23) rfl) rfl rfl rfl ?_
    refine wl_go rfl rfl ?_
    refine wl_v (ov_sub (r := ((xs.length : Nat) : Int) - 1) rfl rfl rfl (by omega)) rfl rfl rfl ?_
    refine wl_go rfl rfl ?_
    refine wl_r (or_call (fv := []) (vs := [.slice A (xs.length) (c), .int .i64 (0), .int .i64 (((xs.length : Nat) : Int) - 1)]) (cs := []) en41 rfl rfl (call_v (fun w hw => allIn_c w A xs.length c xs 0 (((xs.length : Nat) : Int) - 1) ((holds_old oA) w hw) rfl lA (by first | assumption | omega | (simp; omega))))) rfl rfl (kt_if rfl (fun c13 => ?_) (fun c13 => ?_))
    ·
      refine wl_go rfl rfl ?_
      refine wl_v (ov_not rfl) rfl rfl rfl ?_
      refine wl_v (ov_pick_f rfl rfl) rfl rfl rfl ?_
      refine wl_nil ?_
      refine ce_then ?_
      refine cw_false rfl ?_
      refine cw_skip ?_
      refine ce_then ?_
      refine cw_seq ?_
      have hV : ValidSc xs := ⟨by omega, by omega, c13⟩
      have hll : (scoreL xs).length = xs.length := by simp [scoreL]
      refine cw_region ?_
      refine wl_v (ov_move rfl) rfl rfl rfl ?_
      refine wl_r (or_call (fv := []) (vs := [.slice A (xs.length) (c)]) (cs := []) en48 rfl rfl (call_x2 (fun w hw => over_c w A xs.length c xs ((holds_old oA) w hw) rfl lA hV.small))) rfl rfl (kt2p rfl (fun A2_17 c2_17 h_17 => ?_))
      refine wl_v (ov_assign rfl) rfl rfl rfl ?_
      refine wl_nil ?_
      refine ce_then ?_
      refine cw_seq ?_
      refine cw_region ?_
      refine wl_v (ov_move rfl) rfl rfl rfl ?_
      refine wl_r (or_call (fv := []) (vs := [.slice A2_17 (xs.length) (c2_17)]) (cs := []) en52 rfl rfl (call_v (fun w hw => min_c w A2_17 xs.length c2_17 (scoreL xs) ((holds_row (List.Mem.head _)) w hw) hll h_17 (by omega)))) rfl rfl (kt0 rfl ?_)
      refine wl_if (ov_geq rfl rfl) rfl rfl rfl (fun c20 => ?_) (fun c20 => ?_)
      ·
        refine wl_v (ov_move rfl) rfl rfl rfl ?_
        refine wl_go rfl rfl ?_
        refine wl_v (ov_move rfl) rfl rfl rfl ?_
        refine wl_go rfl rfl ?_
        refine wl_v (ov_move rfl) rfl rfl rfl ?_
        refine wl_go rfl rfl ?_
        refine wl_v (ov_len (sliceI_spec sI23) rfl) rfl rfl rfl ?_
        refine wl_go rfl rfl ?_
        refine wl_v (ov_sub (r := ((xs.length - 1 : Nat) : Int)) rfl rfl (by omega) (by omega)) rfl rfl rfl ?_
        refine wl_go rfl rfl ?_
        refine wl_v (ov_index (k := xs.length - 1) (c := c2_17) sI23 tI3 rfl rfl (some_holds (q := (xs.length - 1) * 1) (holds_row (List.Mem.head _)) (by rw [cells_length fI_len]; have hlt : xs.length - 1 < (scoreL xs).length := (by first | omega | (simp; omega)); omega)) (show xs.length - 1 < xs.length from (by first | omega | (simp; omega)))) rfl rfl rfl ?_
        refine wl_go rfl rfl ?_
        refine wl_v (ov_load tI3 (holds_row (List.Mem.head _)) rfl (get_fI (show xs.length - 1 < (scoreL xs).length from (by first | omega | (simp; omega))))) rfl rfl rfl ?_
        refine wl_go rfl rfl ?_
        refine wl_if (ov_eql rfl rfl) rfl rfl rfl (fun c28 => ?_) (fun c28 => ?_)
        ·
          refine wl_v (ov_pick_t rfl rfl) rfl rfl rfl ?_
          refine wl_v (ov_assign rfl) rfl rfl rfl ?_
          refine wl_nil ?_
          refine ce_then ?_
          refine cw_ret ?_
          refine ce_results (v := .bool true) (res1 rfl (rv_t rfl)) (fun w' hw => ?_)
          exact ⟨(bt ⟨hV, fun x hx => by have h1 := (minTo_all (d := scoreL xs) (b := -1) (by omega)).1 (by rw [hll]; omega) x hx; omega, c28⟩), (Keep.nil.ss hw).to_new⟩
        ·
          refine wl_v (ov_pick_t rfl rfl) rfl rfl rfl ?_
          refine wl_v (ov_assign rfl) rfl rfl rfl ?_
          refine wl_nil ?_
          refine ce_then ?_
          refine cw_ret ?_
          refine ce_results (v := .bool false) (res1 rfl (rv_t rfl)) (fun w' hw => ?_)
          exact ⟨(bf (fun h => c28 h.2.2)), (Keep.nil.ss hw).to_new⟩
      ·
        refine wl_v (ov_move rfl) rfl rfl rfl ?_
        refine wl_not rfl rfl rfl rfl rfl rfl ?_
        refine wl_not rfl rfl rfl rfl rfl rfl ?_
        refine wl_not rfl rfl rfl rfl rfl rfl ?_
        refine wl_not rfl rfl rfl rfl rfl rfl ?_
        refine wl_not rfl rfl rfl rfl rfl rfl ?_
        refine wl_not rfl rfl rfl rfl rfl rfl ?_
        refine wl_not rfl rfl rfl rfl rfl rfl ?_
        refine wl_v (ov_pick_f rfl rfl) rfl rfl rfl ?_
        refine wl_v (ov_assign rfl) rfl rfl rfl ?_
        refine wl_nil ?_
        refine ce_then ?_
        refine cw_ret ?_
        refine ce_results (v := .bool false) (res1 rfl (rv_t rfl)) (fun w' hw => ?_)
        exact ⟨(bf (fun h => c20 (by have h1 := (minTo_all (d := scoreL xs) (b := -1) (by omega)).2 (fun x hx => by have := h.2.1 x hx; omega); rw [hll] at h1; omega))), (Keep.nil.ss hw).to_new⟩
    ·
      refine wl_go rfl rfl ?_
      refine wl_v (ov_not rfl) rfl rfl rfl ?_
      refine wl_v (ov_pick_f rfl rfl) rfl rfl rfl ?_
      refine wl_nil ?_
      refine ce_then ?_
      refine cw_true rfl ?_
      refine cw_seq ?_
      refine cw_region ?_
      refine wl_v (ov_assign rfl) rfl rfl rfl ?_
      refine wl_nil ?_
      refine ce_then ?_
      refine cw_ret ?_
      refine ce_then_ret ?_
      refine ce_results (v := .bool false) (res1 rfl (rv_t rfl)) (fun w' hw => ?_)
      exact ⟨(bf (fun h => c13 h.1.2.2)), (Keep.nil.ss hw).to_new⟩
  ·
    refine wl_v (ov_not rfl) rfl rfl rfl ?_
    refine wl_v (ov_move rfl) rfl rfl rfl ?_
    refine wl_not rfl rfl rfl rfl rfl rfl ?_
    refine wl_not rfl rfl rfl rfl rfl rfl ?_
    refine wl_not rfl rfl rfl rfl rfl rfl ?_
    refine wl_not rfl rfl rfl rfl rfl rfl ?_
    refine wl_not rfl rfl rfl rfl rfl rfl ?_
    refine wl_not rfl rfl rfl rfl rfl rfl ?_
    refine wl_v (ov_pick_t rfl rfl) rfl rfl rfl ?_
    refine wl_nil ?_
    refine ce_then ?_
    refine cw_true rfl ?_
    refine cw_seq ?_
    refine cw_region ?_
    refine wl_v (ov_assign rfl) rfl rfl rfl ?_
    refine wl_nil ?_
    refine ce_then ?_
    refine cw_ret ?_
    refine ce_then_ret ?_
    refine ce_results (v := .bool false) (res1 rfl (rv_t rfl)) (fun w' hw => ?_)
    exact ⟨(bf (fun h => c6 (by have h1 := h.1.1; have h2 := h.1.2.1; omega))), (Keep.nil.ss hw).to_new⟩
end Go.Proofs.Ytholcpgoioaccaa.W9
