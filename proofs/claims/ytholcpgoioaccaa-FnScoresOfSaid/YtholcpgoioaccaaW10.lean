/- Walks of functions of the given program: each returns what its Lean function says and leaves the memory that was there as it was. Conditions: those of each theorem. -/
import Derived.Test.YtholcpgoioaccaaSm
import Derived.Test.YtholcpgoioaccaaProg
import Derived.Test.YtholcpgoioaccaaPl
import Derived.Test.YtholcpgoioaccaaPo
import Derived.Test.YtholcpgoioaccaaPd
import Derived.Test.YtholcpgoioaccaaPe
import Derived.Test.YtholcpgoioaccaaPh
import Derived.Test.YtholcpgoioaccaaPm
import Derived.Test.YtholcpgoioaccaaPc
import Derived.Test.YtholcpgoioaccaaPs
import Derived.Test.YtholcpgoioaccaaPt
import Derived.Test.YtholcpgoioaccaaPu
import Derived.Test.YtholcpgoioaccaaPv
import Derived.Test.YtholcpgoioaccaaSo
import Derived.Test.YtholcpgoioaccaaSh
import Derived.Test.YtholcpgoioaccaaT
import Derived.Test.YtholcpgoioaccaaW1
import Derived.Test.YtholcpgoioaccaaW2
import Derived.Test.YtholcpgoioaccaaW5
import Derived.Test.YtholcpgoioaccaaW6
import Derived.Test.YtholcpgoioaccaaW7
import Derived.Test.YtholcpgoioaccaaW9
import Derived.KernelRfl
namespace Go.Proofs.Ytholcpgoioaccaa.W10
open Go.Sx Go.RowKit Go.Proofs.Ytholcpgoioaccaa.T Go.Proofs.Ytholcpgoioaccaa.W1 Go.Proofs.Ytholcpgoioaccaa.W2 Go.Proofs.Ytholcpgoioaccaa.W5 Go.Proofs.Ytholcpgoioaccaa.W6 Go.Proofs.Ytholcpgoioaccaa.W7 Go.Proofs.Ytholcpgoioaccaa.W9
open Go.Plain
set_option linter.unusedVariables false
set_option maxRecDepth 100000 in
theorem validMS_c (w : World) (A : Option Addr) (n : Nat) (c : Nat) (xs : List (Int)) (A2 : Option Addr) (n2 : Nat) (c2 : Nat) (ys : List (Int)) (hA : At w A (cells fI xs)) (eA : xs.length = n) (lA : n ≤ c) (hA2 : At w A2 (cells fI ys)) (eA2 : ys.length = n2) (lA2 : n2 ≤ c2) (hs : xs.length ≤ 1048576 ∧ ys.length ≤ 1048576) : Calls Try.prog 42 #[.slice A (n) (c), .slice A2 (n2) (c2)] w (Ret fun rv w' => rv = .bool (decide (ValidM xs ys)) ∧ New w w' []) := by
  have oA := hA.atB
  subst eA
  have oA2 := hA2.atB
  subst eA2
  refine fn_enter (args := [.slice A (xs.length) (c), .slice A2 (ys.length) (c2)]) Try.func42 rfl Try.ntmps42 rfl (SS.start w) ?_
  refine cw_seq ?_
  refine cw_region ?_
  refine wl_v (ov_assign rfl) rfl rfl rfl ?_
  refine wl_nil ?_
  refine ce_then ?_
  refine cw_seq ?_
  refine cw_seq ?_
  refine cw_region ?_
  refine wl_v (ov_assign rfl) rfl rfl rfl ?_
  refine wl_nil ?_
  refine ce_then ?_
  refine cw_block ?_
  refine cw_loop1 (fun (k : Nat) => [(0, .slice A (xs.length) (c)), (1, .slice A2 (ys.length) (c2)), (5, .int .i64 (((k : Nat) : Int)))]) (fun (k : Nat) => []) (fun (k : Nat) => k ≤ xs.length ∧ ∀ x ∈ xs.take k, 0 ≤ x ∧ x ≤ (ys.length : Int)) (fun (k : Nat) => xs.length - k) 0 ⟨by omega, by simp⟩ (.cons rfl (.cons rfl (.cons (congrArg (fun z => some (Value.int .i64 z)) (show 0 = ((0 : Nat) : Int) by first | omega | rfl | (simp; done))) (.nil)))) (.nil) ?_
  intro R0 k hk hR0
  obtain ⟨ha1, ha2⟩ := hk
  refine cw_seq ?_
  refine cw_seq ?_
  refine cw_region ?_
  refine wl_v (ov_move rfl) rfl rfl rfl ?_
  refine wl_v (ov_move rfl) rfl rfl rfl ?_
  refine wl_v (ov_len (sliceI_spec sI23) rfl) rfl rfl rfl ?_
  refine wl_if (ov_lss rfl rfl) rfl rfl rfl (fun c10 => ?_) (fun c10 => ?_)
  ·
    refine wl_nil ?_
    refine ce_then ?_
    refine cw_true rfl ?_
    refine cw_skip ?_
    refine ce_then ?_
    refine cw_seq ?_
    refine cw_block ?_
    refine cw_seq ?_
    refine cw_region ?_
    refine wl_v (ov_move rfl) rfl rfl rfl ?_
    refine wl_v (ov_move rfl) rfl rfl rfl ?_
    refine wl_v (ov_index (k := k) (c := c) sI23 tI3 rfl rfl (some_holds (q := k * 1) (holds_old oA) (by rw [cells_length fI_len]; have hlt : k < xs.length := (by first | omega | (simp; omega)); omega)) (show k < xs.length from (by first | omega | (simp; omega)))) rfl rfl rfl ?_
    refine wl_v (ov_load tI3 (holds_old oA) rfl (get_fI (show k < xs.length from (by first | omega | (simp; omega))))) rfl rfl rfl ?_
    refine wl_v (ov_move rfl) rfl rfl rfl ?_
    refine wl_v (ov_len (sliceI_spec sI23) rfl) rfl rfl rfl ?_
    refine wl_r (or_call (fv := []) (vs := [.int .i64 ((xs.getD k 0)), .int .i64 (0), .int .i64 (((ys.length : Nat) : Int))]) (cs := []) en77 rfl rfl (call_v (fun w hw => inRange_c w (xs.getD k 0) 0 ((ys.length : Nat) : Int) ))) rfl rfl (kt_if rfl (fun c19 => ?_) (fun c19 => ?_))
    ·
      refine wl_v (ov_not rfl) rfl rfl rfl ?_
      refine wl_nil ?_
      refine ce_then ?_
      refine cw_false rfl ?_
      refine cw_skip ?_
      refine ce_block ?_
      refine ce_then ?_
      refine cw_region ?_
      refine wl_v (ov_move rfl) rfl rfl rfl ?_
      refine wl_v (ov_add (r := ((k + 1 : Nat) : Int)) rfl rfl rfl (by omega)) rfl rfl rfl ?_
      refine wl_v (ov_assign rfl) rfl rfl rfl ?_
      refine wl_nil ?_
      exact fun ac_ w_ hs_ => hR0 (k + 1) ⟨by omega, all_take_step 0 (by omega) ha2 (by omega)⟩ (by omega) ac_ w_ (hs_.weaken (.cons rfl (.cons rfl (.cons rfl (.nil)))) (.nil))
    ·
      refine wl_v (ov_not rfl) rfl rfl rfl ?_
      refine wl_nil ?_
      refine ce_then ?_
      refine cw_true rfl ?_
      refine cw_seq ?_
      refine cw_region ?_
      refine wl_v (ov_assign rfl) rfl rfl rfl ?_
      refine wl_nil ?_
      refine ce_then ?_
      refine cw_ret ?_
      refine ce_block_ret ?_
      refine ce_then_ret ?_
      refine ce_then_ret ?_
      refine ce_block_ret ?_
      refine ce_then_ret ?_
      refine ce_results (v := .bool false) (res1 rfl (rv_t rfl)) (fun w' hw => ?_)
      exact ⟨(bf (fun h => c19 (h.2.2.1 _ (getD_mem 0 (by omega))))), (Keep.nil.ss hw).to_new⟩
  ·
    refine wl_nil ?_
    refine ce_then ?_
    refine cw_false rfl ?_
    refine cw_exit ?_
    refine ce_then_exit ?_
    refine ce_then_exit ?_
    refine ce_hit ?_
    refine ce_then ?_
    refine cw_seq ?_
    refine cw_seq ?_
    refine cw_region ?_
    refine wl_v (ov_assign rfl) rfl rfl rfl ?_
    refine wl_nil ?_
    refine ce_then ?_
    refine cw_block ?_
    refine cw_loop1 (fun (q : Nat) => [(0, .slice A (xs.length) (c)), (1, .slice A2 (ys.length) (c2)), (6, .int .i64 (((q : Nat) : Int)))]) (fun (q : Nat) => []) (fun (q : Nat) => q ≤ ys.length ∧ ∀ x ∈ ys.take q, 0 ≤ x ∧ x ≤ (xs.length : Int)) (fun (q : Nat) => ys.length - q) 0 ⟨by omega, by simp⟩ (.cons rfl (.cons rfl (.cons (congrArg (fun z => some (Value.int .i64 z)) (show 0 = ((0 : Nat) : Int) by first | omega | rfl | (simp; done))) (.nil)))) (.nil) ?_
    intro R1 q hk1 hR1
    obtain ⟨hb1, hb2⟩ := hk1
    refine cw_seq ?_
    refine cw_seq ?_
    refine cw_region ?_
    refine wl_v (ov_move rfl) rfl rfl rfl ?_
    refine wl_v (ov_move rfl) rfl rfl rfl ?_
    refine wl_v (ov_len (sliceI_spec sI23) rfl) rfl rfl rfl ?_
    refine wl_if (ov_lss rfl rfl) rfl rfl rfl (fun c24 => ?_) (fun c24 => ?_)
    ·
      refine wl_nil ?_
      refine ce_then ?_
      refine cw_true rfl ?_
      refine cw_skip ?_
      refine ce_then ?_
      refine cw_seq ?_
      refine cw_block ?_
      refine cw_seq ?_
      refine cw_region ?_
      refine wl_v (ov_move rfl) rfl rfl rfl ?_
      refine wl_v (ov_move rfl) rfl rfl rfl ?_
      refine wl_v (ov_index (k := q) (c := c2) sI23 tI3 rfl rfl (some_holds (q := q * 1) (holds_old oA2) (by rw [cells_length fI_len]; have hlt : q < ys.length := (by first | omega | (simp; omega)); omega)) (show q < ys.length from (by first | omega | (simp; omega)))) rfl rfl rfl ?_
      refine wl_v (ov_load tI3 (holds_old oA2) rfl (get_fI (show q < ys.length from (by first | omega | (simp; omega))))) rfl rfl rfl ?_
      refine wl_v (ov_move rfl) rfl rfl rfl ?_
      refine wl_v (ov_len (sliceI_spec sI23) rfl) rfl rfl rfl ?_
      refine wl_r (or_call (fv := []) (vs := [.int .i64 ((ys.getD q 0)), .int .i64 (0), .int .i64 (((xs.length : Nat) : Int))]) (cs := []) en77 rfl rfl (call_v (fun w hw => inRange_c w (ys.getD q 0) 0 ((xs.length : Nat) : Int) ))) rfl rfl (kt_if rfl (fun c33 => ?_) (fun c33 => ?_))
      ·
        refine wl_v (ov_not rfl) rfl rfl rfl ?_
        refine wl_nil ?_
        refine ce_then ?_
        refine cw_false rfl ?_
        refine cw_skip ?_
        refine ce_block ?_
        refine ce_then ?_
        refine cw_region ?_
        refine wl_v (ov_move rfl) rfl rfl rfl ?_
        refine wl_v (ov_add (r := ((q + 1 : Nat) : Int)) rfl rfl rfl (by omega)) rfl rfl rfl ?_
        refine wl_v (ov_assign rfl) rfl rfl rfl ?_
        refine wl_nil ?_
        exact fun ac_ w_ hs_ => hR1 (q + 1) ⟨by omega, all_take_step 0 (by omega) hb2 (by omega)⟩ (by omega) ac_ w_ (hs_.weaken (.cons rfl (.cons rfl (.cons rfl (.nil)))) (.nil))
      ·
        refine wl_v (ov_not rfl) rfl rfl rfl ?_
        refine wl_nil ?_
        refine ce_then ?_
        refine cw_true rfl ?_
        refine cw_seq ?_
        refine cw_region ?_
        refine wl_v (ov_assign rfl) rfl rfl rfl ?_
        refine wl_nil ?_
        refine ce_then ?_
        refine cw_ret ?_
        refine ce_block_ret ?_
        refine ce_then_ret ?_
        refine ce_then_ret ?_
        refine ce_block_ret ?_
        refine ce_then_ret ?_
        refine ce_results (v := .bool false) (res1 rfl (rv_t rfl)) (fun w' hw => ?_)
        exact ⟨(bf (fun h => c33 (h.2.2.2 _ (getD_mem 0 (by omega))))), (Keep.nil.ss hw).to_new⟩
    ·
      refine wl_nil ?_
      refine ce_then ?_
      refine cw_false rfl ?_
      refine cw_exit ?_
      refine ce_then_exit ?_
      refine ce_then_exit ?_
      refine ce_hit ?_
      refine ce_then ?_
      refine cw_seq ?_
      refine cw_region ?_
      refine wl_v (ov_move rfl) rfl rfl rfl ?_
      refine wl_v (ov_len (sliceI_spec sI23) rfl) rfl rfl rfl ?_
      refine wl_r (or_call (fv := []) (vs := [.int .i64 (((xs.length : Nat) : Int)), .int .i64 (1), .int .i64 (5)]) (cs := []) en77 rfl rfl (call_v (fun w hw => inRange_c w ((xs.length : Nat) : Int) 1 5 ))) rfl rfl (kt_if rfl (fun c37 => ?_) (fun c37 => ?_))
      ·
        refine wl_v (ov_move rfl) rfl rfl rfl ?_
        refine wl_go rfl rfl ?_
        refine wl_v (ov_move rfl) rfl rfl rfl ?_
        refine wl_go rfl rfl ?_
        refine wl_v (ov_len (sliceI_spec sI23) rfl) rfl rfl rfl ?_
        refine wl_go rfl rfl ?_
        refine wl_r (or_call (fv := []) (vs := [.int .i64 (((ys.length : Nat) : Int)), .int .i64 (1), .int .i64 (5)]) (cs := []) en77 rfl rfl (call_v (fun w hw => inRange_c w ((ys.length : Nat) : Int) 1 5 ))) rfl rfl (kt_if rfl (fun c41 => ?_) (fun c41 => ?_))
        ·
          refine wl_v (ov_pick_t rfl rfl) rfl rfl rfl ?_
          refine wl_v (ov_assign rfl) rfl rfl rfl ?_
          refine wl_nil ?_
          refine ce_then ?_
          refine cw_ret ?_
          refine ce_results (v := .bool true) (res1 rfl (rv_t rfl)) (fun w' hw => ?_)
          exact ⟨(bt ⟨by omega, by omega, take_all (k := k) (by omega) ha2, take_all (k := q) (by omega) hb2⟩), (Keep.nil.ss hw).to_new⟩
        ·
          refine wl_v (ov_pick_t rfl rfl) rfl rfl rfl ?_
          refine wl_v (ov_assign rfl) rfl rfl rfl ?_
          refine wl_nil ?_
          refine ce_then ?_
          refine cw_ret ?_
          refine ce_results (v := .bool false) (res1 rfl (rv_t rfl)) (fun w' hw => ?_)
          exact ⟨(bf (fun h => c41 (by have := h.2.1; omega))), (Keep.nil.ss hw).to_new⟩
      ·
        refine wl_v (ov_move rfl) rfl rfl rfl ?_
        refine wl_not rfl rfl rfl rfl rfl rfl ?_
        refine wl_not rfl rfl rfl rfl rfl rfl ?_
        refine wl_not rfl rfl rfl rfl rfl rfl ?_
        refine wl_v (ov_pick_f rfl rfl) rfl rfl rfl ?_
        refine wl_v (ov_assign rfl) rfl rfl rfl ?_
        refine wl_nil ?_
        refine ce_then ?_
        refine cw_ret ?_
        refine ce_results (v := .bool false) (res1 rfl (rv_t rfl)) (fun w' hw => ?_)
        exact ⟨(bf (fun h => c37 (by have := h.1; omega))), (Keep.nil.ss hw).to_new⟩
set_option maxRecDepth 100000 in
theorem validMI_c (w : World) (A : Option Addr) (n : Nat) (c : Nat) (xs : List (Int)) (A2 : Option Addr) (n2 : Nat) (c2 : Nat) (ys : List (Int)) (hA : At w A (cells fI xs)) (eA : xs.length = n) (lA : n ≤ c) (hA2 : At w A2 (cells fI ys)) (eA2 : ys.length = n2) (lA2 : n2 ≤ c2) (hs : xs.length ≤ 1048576 ∧ ys.length ≤ 1048576) : Calls Try.prog 10 #[.slice A (n) (c), .slice A2 (n2) (c2)] w (Ret fun rv w' => rv = .bool (decide (ValidM xs ys)) ∧ New w w' []) := by
  have oA := hA.atB
  subst eA
  have oA2 := hA2.atB
  subst eA2
  refine fn_enter (args := [.slice A (xs.length) (c), .slice A2 (ys.length) (c2)]) Try.func10 rfl Try.ntmps10 rfl (SS.start w) ?_
  refine cw_seq ?_
  refine cw_region ?_
  refine wl_v (ov_assign rfl) rfl rfl rfl ?_
  refine wl_nil ?_
  refine ce_then ?_
  refine cw_seq ?_
  refine cw_region ?_
  refine wl_v (ov_move rfl) rfl rfl rfl ?_
  refine wl_v (ov_len (sliceI_spec sI23) rfl) rfl rfl rfl ?_
  refine wl_r (or_call (fv := []) (vs := [.int .i64 (((xs.length : Nat) : Int)), .int .i64 (1), .int .i64 (5)]) (cs := []) en40 rfl rfl (call_v (fun w hw => in_c w ((xs.length : Nat) : Int) 1 5 ))) rfl rfl (kt_if rfl (fun c7 => ?_) (fun c7 => ?_))
  ·
    refine wl_v (ov_move rfl) rfl rfl rfl ?_
    refine wl_go rfl rfl ?_
    refine wl_v (ov_move rfl) rfl rfl rfl ?_
    refine wl_go rfl rfl ?_
    refine wl_v (ov_len (sliceI_spec sI23) rfl) rfl rfl rfl ?_
    refine wl_go rfl rfl ?_
    refine wl_r (or_call (fv := []) (vs := [.int .i64 (((ys.length : Nat) : Int)), .int .i64 (1), .int .i64 (5)]) (cs := []) en40 rfl rfl (call_v (fun w hw => in_c w ((ys.length : Nat) : Int) 1 5 ))) rfl rfl (kt_if rfl (fun c11 => ?_) (fun c11 => ?_))
    ·
      refine wl_v (ov_pick_t rfl rfl) rfl rfl rfl ?_
      refine wl_v (ov_move rfl) rfl rfl rfl ?_
      refine wl_go rfl rfl ?_
      refine wl_v (ov_move rfl) rfl rfl rfl ?_
      refine wl_go rfl rfl ?_
      refine wl_v (ov_move rfl) rfl rfl rfl ?_
      refine wl_go rfl rfl ?_
      refine wl_v (ov_len (sliceI_spec sI23) rfl) rfl rfl rfl ?_
      refine wl_go rfl rfl ?_
      refine wl_r (or_call (fv := []) (vs := [.slice A (xs.length) (c), .int .i64 (0), .int .i64 (((ys.length : Nat) : Int))]) (cs := []) en41 rfl rfl (call_v (fun w hw => allIn_c w A xs.length c xs 0 ((ys.length : Nat) : Int) ((holds_old oA) w hw) rfl lA (by first | assumption | omega | (simp; omega))))) rfl rfl (kt_if rfl (fun c17 => ?_) (fun c17 => ?_))
      ·
        refine wl_v (ov_pick_t rfl rfl) rfl rfl rfl ?_
        refine wl_v (ov_move rfl) rfl rfl rfl ?_
        refine wl_go rfl rfl ?_
        refine wl_v (ov_move rfl) rfl rfl rfl ?_
        refine wl_go rfl rfl ?_
        refine wl_v (ov_move rfl) rfl rfl rfl ?_
        refine wl_go rfl rfl ?_
        refine wl_v (ov_len (sliceI_spec sI23) rfl) rfl rfl rfl ?_
        refine wl_go rfl rfl ?_
        refine wl_r (or_call (fv := []) (vs := [.slice A2 (ys.length) (c2), .int .i64 (0), .int .i64 (((xs.length : Nat) : Int))]) (cs := []) en41 rfl rfl (call_v (fun w hw => allIn_c w A2 ys.length c2 ys 0 ((xs.length : Nat) : Int) ((holds_old oA2) w hw) rfl lA2 (by first | assumption | omega | (simp; omega))))) rfl rfl (kt_if rfl (fun c23 => ?_) (fun c23 => ?_))
        ·
          refine wl_v (ov_pick_t rfl rfl) rfl rfl rfl ?_
          refine wl_v (ov_assign rfl) rfl rfl rfl ?_
          refine wl_nil ?_
          refine ce_then ?_
          refine cw_ret ?_
          refine ce_results (v := .bool true) (res1 rfl (rv_t rfl)) (fun w' hw => ?_)
          exact ⟨(bt ⟨by omega, by omega, c17, c23⟩), (Keep.nil.ss hw).to_new⟩
        ·
          refine wl_v (ov_pick_t rfl rfl) rfl rfl rfl ?_
          refine wl_v (ov_assign rfl) rfl rfl rfl ?_
          refine wl_nil ?_
          refine ce_then ?_
          refine cw_ret ?_
          refine ce_results (v := .bool false) (res1 rfl (rv_t rfl)) (fun w' hw => ?_)
          exact ⟨(bf (fun h => c23 h.2.2.2)), (Keep.nil.ss hw).to_new⟩
      ·
        refine wl_v (ov_pick_t rfl rfl) rfl rfl rfl ?_
        refine wl_v (ov_move rfl) rfl rfl rfl ?_
        refine wl_not rfl rfl rfl rfl rfl rfl ?_
        refine wl_not rfl rfl rfl rfl rfl rfl ?_
        refine wl_not rfl rfl rfl rfl rfl rfl ?_
        refine wl_not rfl rfl rfl rfl rfl rfl ?_
        refine wl_v (ov_pick_f rfl rfl) rfl rfl rfl ?_
        refine wl_v (ov_assign rfl) rfl rfl rfl ?_
        refine wl_nil ?_
        refine ce_then ?_
        refine cw_ret ?_
        refine ce_results (v := .bool false) (res1 rfl (rv_t rfl)) (fun w' hw => ?_)
        exact ⟨(bf (fun h => c17 h.2.2.1)), (Keep.nil.ss hw).to_new⟩
    ·
      refine wl_v (ov_pick_t rfl rfl) rfl rfl rfl ?_
      refine wl_v (ov_move rfl) rfl rfl rfl ?_
      refine wl_not rfl rfl rfl rfl rfl rfl ?_
      refine wl_not rfl rfl rfl rfl rfl rfl ?_
      refine wl_not rfl rfl rfl rfl rfl rfl ?_
      refine wl_not rfl rfl rfl rfl rfl rfl ?_
      refine wl_v (ov_pick_f rfl rfl) rfl rfl rfl ?_
      refine wl_v (ov_move rfl) rfl rfl rfl ?_
      refine wl_not rfl rfl rfl rfl rfl rfl ?_
      refine wl_not rfl rfl rfl rfl rfl rfl ?_
      refine wl_not rfl rfl rfl rfl rfl rfl ?_
      refine wl_not rfl rfl rfl rfl rfl rfl ?_
      refine wl_v (ov_pick_f rfl rfl) rfl rfl rfl ?_
      refine wl_v (ov_assign rfl) rfl rfl rfl ?_
      refine wl_nil ?_
      refine ce_then ?_
      refine cw_ret ?_
      refine ce_results (v := .bool false) (res1 rfl (rv_t rfl)) (fun w' hw => ?_)
      exact ⟨(bf (fun h => c11 (by have := h.2.1; omega))), (Keep.nil.ss hw).to_new⟩
  ·
    refine wl_v (ov_move rfl) rfl rfl rfl ?_
    refine wl_not rfl rfl rfl rfl rfl rfl ?_
    refine wl_not rfl rfl rfl rfl rfl rfl ?_
    refine wl_not rfl rfl rfl rfl rfl rfl ?_
    refine wl_v (ov_pick_f rfl rfl) rfl rfl rfl ?_
    refine wl_v (ov_move rfl) rfl rfl rfl ?_
    refine wl_not rfl rfl rfl rfl rfl rfl ?_
    refine wl_not rfl rfl rfl rfl rfl rfl ?_
    refine wl_not rfl rfl rfl rfl rfl rfl ?_
    refine wl_not rfl rfl rfl rfl rfl rfl ?_
    refine wl_v (ov_pick_f rfl rfl) rfl rfl rfl ?_
    refine wl_v (ov_move rfl) rfl rfl rfl ?_
    refine wl_not rfl rfl rfl rfl rfl rfl ?_
    refine wl_not rfl rfl rfl rfl rfl rfl ?_
    refine wl_not rfl rfl rfl rfl rfl rfl ?_
    refine wl_not rfl rfl rfl rfl rfl rfl ?_
    refine wl_v (ov_pick_f rfl rfl) rfl rfl rfl ?_
    refine wl_v (ov_assign rfl) rfl rfl rfl ?_
    refine wl_nil ?_
    refine ce_then ?_
    refine cw_ret ?_
    refine ce_results (v := .bool false) (res1 rfl (rv_t rfl)) (fun w' hw => ?_)
    exact ⟨(bf (fun h => c7 (by have := h.1; omega))), (Keep.nil.ss hw).to_new⟩
set_option maxRecDepth 100000 in
theorem galeS_c (w : World) (A : Option Addr) (n : Nat) (c : Nat) (xs : List (Int)) (A2 : Option Addr) (n2 : Nat) (c2 : Nat) (ys : List (Int)) (hA : At w A (cells fI xs)) (eA : xs.length = n) (lA : n ≤ c) (hA2 : At w A2 (cells fI ys)) (eA2 : ys.length = n2) (lA2 : n2 ≤ c2) (hs : ValidM xs ys) : Calls Try.prog 45 #[.slice A (n) (c), .slice A2 (n2) (c2)] w (Ret fun rv w' => ∃ A3 c3, (n ≤ c3) ∧ rv = .slice A3 (n) (c3) ∧ New w w' [row 3 1 A3 (n) (c3) (cells fI (galeL xs ys))]) := by
  have oA := hA.atB
  subst eA
  have oA2 := hA2.atB
  subst eA2
  have h1 := hs.1
  have h2 := hs.2.1
  have hfl := fall_length xs
  have hsm := small_fall hs.smallR
  refine fn_enter (args := [.slice A (xs.length) (c), .slice A2 (ys.length) (c2)]) Try.func45 rfl Try.ntmps45 rfl (SS.start w) ?_
  refine cw_seq ?_
  refine cw_region ?_
  refine wl_v (ov_assign rfl) rfl rfl rfl ?_
  refine wl_nil ?_
  refine ce_then ?_
  refine cw_seq ?_
  refine cw_region ?_
  refine wl_v (ov_move rfl) rfl rfl rfl ?_
  refine wl_r (or_call (fv := []) (vs := [.slice A (xs.length) (c)]) (cs := []) en80 rfl rfl (call_x2 (fun w hw => fallingS_c w A xs.length c xs ((holds_old oA) w hw) rfl lA (by first | assumption | omega | (simp; omega))))) rfl rfl (kt2p rfl (fun A2_11 c2_11 h_11 => ?_))
  refine wl_v (ov_assign rfl) rfl rfl rfl ?_
  refine wl_nil ?_
  refine ce_then ?_
  refine cw_seq ?_
  refine cw_region ?_
  refine wl_r (or_buildSlice (e := 3) (size := 1) (is := []) (vs := []) (cs := cells fI ([])) rfl rfl rfl (by decide) (fun _ => by kernel_rfl)) rfl rfl (kt1 rfl (fun g12 => ?_))
  refine wl_v (ov_assign rfl) rfl rfl rfl ?_
  refine wl_nil ?_
  refine ce_then ?_
  refine cw_seq ?_
  refine cw_seq ?_
  refine cw_region ?_
  refine wl_v (ov_assign rfl) rfl rfl rfl ?_
  refine wl_nil ?_
  refine ce_then ?_
  refine cw_block ?_
  refine cw_loop3 (fun (q : Nat) (A3 : Option Addr) (c3 : Nat) => [(1, .slice A2 (ys.length) (c2)), (4, .slice none (0) (0)), (5, .slice A2_11 (xs.length) (c2_11)), (6, .slice A3 (q) (c3)), (7, .int .i64 (((q + 1 : Nat) : Int)))]) (fun (q : Nat) (A3 : Option Addr) (c3 : Nat) => [row 3 1 A3 (q) (c3) (cells fI ((List.range q).map (galeAt xs ys))), row 3 1 A2_11 (xs.length) (c2_11) (cells fI (fall xs))]) (fun (q : Nat) (A3 : Option Addr) (c3 : Nat) => q ≤ xs.length ∧ q ≤ c3) (fun (q : Nat) (A3 : Option Addr) (c3 : Nat) => xs.length - q) 0 (some ⟨g12, 0, none⟩) 0 ⟨by omega, Nat.le_refl _⟩ (.cons rfl (.cons rfl (.cons rfl (.cons rfl (.cons (congrArg (fun z => some (Value.int .i64 z)) (show 1 = ((0 + 1 : Nat) : Int) by first | omega | rfl | (simp; done))) (.nil)))))) (.consE (show row 3 1 (some ⟨g12, 0, none⟩) (0) (0) (cells fI ([])) = row 3 1 (some ⟨g12, 0, none⟩) (0) (0) (cells fI ((List.range 0).map (galeAt xs ys))) by rfl) (.head) (.cons (.head) (.nil))) ?_
  intro R0 q A3 c3 hk hR0
  obtain ⟨hk1, hk2⟩ := hk
  refine cw_seq ?_
  refine cw_seq ?_
  refine cw_region ?_
  refine wl_v (ov_move rfl) rfl rfl rfl ?_
  refine wl_v (ov_move rfl) rfl rfl rfl ?_
  refine wl_v (ov_len (sliceI_spec sI23) rfl) rfl rfl rfl ?_
  refine wl_if (ov_leq rfl rfl) rfl rfl rfl (fun c16 => ?_) (fun c16 => ?_)
  ·
    refine wl_nil ?_
    refine ce_then ?_
    refine cw_true rfl ?_
    refine cw_skip ?_
    refine ce_then ?_
    refine cw_seq ?_
    refine cw_block ?_
    refine cw_seq ?_
    refine cw_region ?_
    refine wl_v (ov_assign rfl) rfl rfl rfl ?_
    refine wl_nil ?_
    refine ce_then ?_
    refine cw_seq ?_
    refine cw_seq ?_
    refine cw_region ?_
    refine wl_v (ov_assign rfl) rfl rfl rfl ?_
    refine wl_nil ?_
    refine ce_then ?_
    refine cw_block ?_
    refine cw_loop1 (fun (j : Nat) => [(1, .slice A2 (ys.length) (c2)), (4, .slice none (0) (0)), (5, .slice A2_11 (xs.length) (c2_11)), (6, .slice A3 (q) (c3)), (7, .int .i64 (((q + 1 : Nat) : Int))), (8, .int .i64 (minsum (ys.take j) ((q + 1 : Nat) : Int))), (9, .int .i64 (((j : Nat) : Int)))]) (fun (j : Nat) => [row 3 1 A3 (q) (c3) (cells fI ((List.range q).map (galeAt xs ys))), row 3 1 A2_11 (xs.length) (c2_11) (cells fI (fall xs))]) (fun (j : Nat) => j ≤ ys.length) (fun (j : Nat) => ys.length - j) 0 (by omega) (.cons rfl (.cons rfl (.cons rfl (.cons rfl (.cons rfl (.cons (congrArg (fun z => some (Value.int .i64 z)) (show 0 = (minsum (ys.take 0) ((q + 1 : Nat) : Int)) from (by simp [minsum, total]))) (.cons (congrArg (fun z => some (Value.int .i64 z)) (show 0 = ((0 : Nat) : Int) by first | omega | rfl | (simp; done))) (.nil)))))))) (.cons (.head) (.cons (.head) (.nil))) ?_
    intro R1 j hk1 hR1
    have hmb := minsum_bd hs.smallC (k := ((q + 1 : Nat) : Int)) (by omega) j (by omega)
    refine cw_seq ?_
    refine cw_seq ?_
    refine cw_region ?_
    refine wl_v (ov_move rfl) rfl rfl rfl ?_
    refine wl_v (ov_move rfl) rfl rfl rfl ?_
    refine wl_v (ov_len (sliceI_spec sI23) rfl) rfl rfl rfl ?_
    refine wl_if (ov_lss rfl rfl) rfl rfl rfl (fun c22 => ?_) (fun c22 => ?_)
    ·
      refine wl_nil ?_
      refine ce_then ?_
      refine cw_true rfl ?_
      refine cw_skip ?_
      refine ce_then ?_
      refine cw_seq ?_
      refine cw_block ?_
      refine cw_region ?_
      refine wl_v (ov_move rfl) rfl rfl rfl ?_
      refine wl_v (ov_move rfl) rfl rfl rfl ?_
      refine wl_v (ov_move rfl) rfl rfl rfl ?_
      refine wl_v (ov_index (k := j) (c := c2) sI23 tI3 rfl rfl (some_holds (q := j * 1) (holds_old oA2) (by rw [cells_length fI_len]; have hlt : j < ys.length := (by first | omega | (simp; omega)); omega)) (show j < ys.length from (by first | omega | (simp; omega)))) rfl rfl rfl ?_
      refine wl_v (ov_load tI3 (holds_old oA2) rfl (get_fI (show j < ys.length from (by first | omega | (simp; omega))))) rfl rfl rfl ?_
      have hx := hs.smallC.at_ (k := j) (by omega)
      refine wl_v (ov_move rfl) rfl rfl rfl ?_
      refine wl_v (ov_min (r := min (ys.getD j 0) ((q + 1 : Nat) : Int)) rfl rfl (by first | omega | (split <;> omega))) rfl rfl rfl ?_
      refine wl_v (ov_add (r := (minsum (ys.take j) ((q + 1 : Nat) : Int)) + (min (ys.getD j 0) ((q + 1 : Nat) : Int))) rfl rfl rfl (by omega)) rfl rfl rfl ?_
      refine wl_v (ov_assign rfl) rfl rfl rfl ?_
      refine wl_nil ?_
      refine ce_block ?_
      refine ce_then ?_
      refine cw_region ?_
      refine wl_v (ov_move rfl) rfl rfl rfl ?_
      refine wl_v (ov_add (r := ((j + 1 : Nat) : Int)) rfl rfl rfl (by omega)) rfl rfl rfl ?_
      refine wl_v (ov_assign rfl) rfl rfl rfl ?_
      refine wl_nil ?_
      exact fun ac_ w_ hs_ => hR1 (j + 1) (by omega) (by omega) ac_ w_ (hs_.weaken (.cons rfl (.cons rfl (.cons rfl (.cons rfl (.cons rfl (.cons (congrArg (fun z => some (Value.int .i64 z)) (show ((minsum (ys.take j) ((q + 1 : Nat) : Int)) + (min (ys.getD j 0) ((q + 1 : Nat) : Int))) = (minsum (ys.take (j + 1)) ((q + 1 : Nat) : Int)) from (by rw [minsum_take (by omega)]))) (.cons rfl (.nil)))))))) (.cons (.head) (.cons (.head) (.nil))))
    ·
      refine wl_nil ?_
      refine ce_then ?_
      refine cw_false rfl ?_
      refine cw_exit ?_
      refine ce_then_exit ?_
      refine ce_then_exit ?_
      refine ce_hit ?_
      refine ce_then ?_
      refine cw_region ?_
      refine wl_v (ov_move rfl) rfl rfl rfl ?_
      refine wl_v (ov_move rfl) rfl rfl rfl ?_
      refine wl_v (ov_move rfl) rfl rfl rfl ?_
      refine wl_v (ov_move rfl) rfl rfl rfl ?_
      refine wl_v (ov_slice_h (h := q + 1) sI23 tI3 rfl rfl (by omega)) rfl rfl rfl ?_
      have htb := total_bd hsm (q + 1) (by omega)
      refine wl_r (or_call (fv := []) (vs := [.slice A2_11 (q + 1) (c2_11)]) (cs := []) en64 rfl rfl (call_v (fun w hw => sum_c w A2_11 (q + 1) c2_11 ((fall xs).take (q + 1)) ((holds_takeC (k := (q + 1)) fI_len (holds_row (List.Mem.tail _ (List.Mem.head _)))) w hw) (by rw [List.length_take, hfl]; omega) (by omega) (hsm.take _)))) rfl rfl (kt0 rfl ?_)
      refine wl_v (ov_sub (r := (minsum (ys.take j) ((q + 1 : Nat) : Int)) - (total ((fall xs).take (q + 1)))) rfl rfl rfl (by omega)) rfl rfl rfl ?_
      refine wl_r (or_buildSlice (e := 3) (size := 1) (is := [0]) (vs := [.int .i64 ((minsum (ys.take j) ((q + 1 : Nat) : Int)) - (total ((fall xs).take (q + 1))))]) (cs := cells fI ([(minsum (ys.take j) ((q + 1 : Nat) : Int)) - (total ((fall xs).take (q + 1)))])) rfl rfl rfl (by decide) (fun _ => by kernel_rfl)) rfl rfl (kt1 rfl (fun g40 => ?_))
      refine wl_r (or_append (c2 := 1) sI23 tI3 rfl (by decide) rfl rfl (.tail .head) (holds_row (List.Mem.head _)) (by rw [cells_length fI_len]; try simp) (one_cells fI_one _) cells_append (by omega) (by omega)) rfl rfl (kt2p rfl (fun A41 c41 h41 => ?_))
      refine wl_v (ov_assign rfl) rfl rfl rfl ?_
      refine wl_nil ?_
      refine ce_block ?_
      refine ce_then ?_
      refine cw_region ?_
      refine wl_v (ov_move rfl) rfl rfl rfl ?_
      refine wl_v (ov_add (r := (((q + 1) + 1 : Nat) : Int)) rfl rfl rfl (by omega)) rfl rfl rfl ?_
      refine wl_v (ov_assign rfl) rfl rfl rfl ?_
      refine wl_nil ?_
      exact fun ac_ w_ hs_ => hR0 (q + 1) A41 c41 ⟨by omega, h41⟩ (by omega) ac_ w_ (hs_.weaken (.cons rfl (.cons rfl (.cons rfl (.cons rfl (.cons rfl (.nil)))))) (.consE (show row 3 1 A41 (q + 1) (c41) (cells fI (((List.range q).map (galeAt xs ys)) ++ ([(minsum (ys.take j) ((q + 1 : Nat) : Int)) - (total ((fall xs).take (q + 1)))]))) = row 3 1 A41 ((q + 1)) (c41) (cells fI ((List.range (q + 1)).map (galeAt xs ys))) by rw [map_range_succ, ← galeTo_end (q := j) (by omega)] <;> rfl) (.head) (.cons (.tail .head) (.nil))))
  ·
    refine wl_nil ?_
    refine ce_then ?_
    refine cw_false rfl ?_
    refine cw_exit ?_
    refine ce_then_exit ?_
    refine ce_then_exit ?_
    refine ce_hit ?_
    refine ce_then ?_
    refine cw_seq ?_
    refine cw_region ?_
    refine wl_v (ov_move rfl) rfl rfl rfl ?_
    refine wl_v (ov_assign rfl) rfl rfl rfl ?_
    refine wl_nil ?_
    refine ce_then ?_
    refine cw_ret ?_
    refine ce_results (v := .slice A3 (q) (c3)) (res1 rfl (rv_t rfl)) (fun w' hw => ?_)
    exact ⟨A3, c3, (by omega), (by rw [show xs.length = q from by omega]), ((.consE (show row 3 1 A3 (q) (c3) (cells fI ((List.range q).map (galeAt xs ys))) = row 3 1 A3 (xs.length) (c3) (cells fI (galeL xs ys)) by rw [galeL, show xs.length = q from by omega]) (.head) (.nil) : Keep _ _).ss hw).to_new⟩
set_option maxRecDepth 100000 in
theorem GaleSlacksS_c (w : World) (A : Option Addr) (n : Nat) (c : Nat) (xs : List (Int)) (A2 : Option Addr) (n2 : Nat) (c2 : Nat) (ys : List (Int)) (hA : At w A (cells fI xs)) (eA : xs.length = n) (lA : n ≤ c) (hA2 : At w A2 (cells fI ys)) (eA2 : ys.length = n2) (lA2 : n2 ≤ c2) (hs : xs.length ≤ 1048576 ∧ ys.length ≤ 1048576) : Calls Try.prog 15 #[.slice A (n) (c), .slice A2 (n2) (c2)] w (Ret fun rv w' => ∃ A3 c3, ((galeV xs ys).length ≤ c3) ∧ rv = .slice A3 ((galeV xs ys).length) (c3) ∧ New w w' [row 3 1 A3 ((galeV xs ys).length) (c3) (cells fI (galeV xs ys))]) := by
  have oA := hA.atB
  subst eA
  have oA2 := hA2.atB
  subst eA2
  refine fn_enter (args := [.slice A (xs.length) (c), .slice A2 (ys.length) (c2)]) Try.func15 rfl Try.ntmps15 rfl (SS.start w) ?_
  refine cw_seq ?_
  refine cw_region ?_
  refine wl_v (ov_assign rfl) rfl rfl rfl ?_
  refine wl_nil ?_
  refine ce_then ?_
  refine cw_seq ?_
  refine cw_seq ?_
  refine cw_region ?_
  refine wl_v (ov_move rfl) rfl rfl rfl ?_
  refine wl_v (ov_move rfl) rfl rfl rfl ?_
  refine wl_r (or_call (fv := []) (vs := [.slice A (xs.length) (c), .slice A2 (ys.length) (c2)]) (cs := []) en42 rfl rfl (call_v (fun w hw => validMS_c w A xs.length c xs A2 ys.length c2 ys ((holds_old oA) w hw) rfl lA ((holds_old oA2) w hw) rfl lA2 (by first | assumption | omega | (simp; omega))))) rfl rfl (kt_if rfl (fun c7 => ?_) (fun c7 => ?_))
  ·
    refine wl_v (ov_not rfl) rfl rfl rfl ?_
    refine wl_nil ?_
    refine ce_then ?_
    refine cw_false rfl ?_
    refine cw_skip ?_
    refine ce_then ?_
    refine cw_seq ?_
    have hyes : galeV xs ys = galeL xs ys := if_pos c7
    have hll := galeL_len xs ys
    refine cw_region ?_
    refine wl_v (ov_move rfl) rfl rfl rfl ?_
    refine wl_v (ov_move rfl) rfl rfl rfl ?_
    refine wl_r (or_call (fv := []) (vs := [.slice A (xs.length) (c), .slice A2 (ys.length) (c2)]) (cs := []) en45 rfl rfl (call_x2 (fun w hw => galeS_c w A xs.length c xs A2 ys.length c2 ys ((holds_old oA) w hw) rfl lA ((holds_old oA2) w hw) rfl lA2 (by first | assumption | omega | (simp; omega))))) rfl rfl (kt2p rfl (fun A3_11 c3_11 h_11 => ?_))
    refine wl_v (ov_assign rfl) rfl rfl rfl ?_
    refine wl_nil ?_
    refine ce_then ?_
    refine cw_ret ?_
    refine ce_results (v := .slice A3_11 (xs.length) (c3_11)) (res1 rfl (rv_t rfl)) (fun w' hw => ?_)
    exact ⟨A3_11, c3_11, (by rw [hyes, hll]; exact h_11), (by rw [hyes, hll]), ((.consE (show row 3 1 A3_11 (xs.length) (c3_11) (cells fI (galeL xs ys)) = row 3 1 A3_11 ((galeV xs ys).length) (c3_11) (cells fI (galeV xs ys)) by rw [hyes, hll]) (.head) (.nil) : Keep _ _).ss hw).to_new⟩
  ·
    refine wl_v (ov_not rfl) rfl rfl rfl ?_
    refine wl_nil ?_
    refine ce_then ?_
    refine cw_true rfl ?_
    refine cw_seq ?_
    have hno : galeV xs ys = [] := if_neg c7
    refine ct_none fI 3 1 ?_
    refine cw_region ?_
    refine wl_v (ov_assign rfl) rfl rfl rfl ?_
    refine wl_nil ?_
    refine ce_then ?_
    refine cw_ret ?_
    refine ce_then_ret ?_
    refine ce_results (v := .slice none (0) (0)) (res1 rfl (rv_t rfl)) (fun w' hw => ?_)
    exact ⟨none, 0, (by rw [hno]; exact Nat.le_refl _), (by rw [hno] <;> rfl), ((.consE (show row 3 1 none (0) (0) (cells fI ([])) = row 3 1 none ((galeV xs ys).length) (0) (cells fI (galeV xs ys)) by rw [hno] <;> rfl) (.head) (.nil) : Keep _ _).ss hw).to_new⟩
set_option maxRecDepth 100000 in
theorem GaleSlacksI_c (w : World) (A : Option Addr) (n : Nat) (c : Nat) (xs : List (Int)) (A2 : Option Addr) (n2 : Nat) (c2 : Nat) (ys : List (Int)) (hA : At w A (cells fI xs)) (eA : xs.length = n) (lA : n ≤ c) (hA2 : At w A2 (cells fI ys)) (eA2 : ys.length = n2) (lA2 : n2 ≤ c2) (hs : xs.length ≤ 1048576 ∧ ys.length ≤ 1048576) : Calls Try.prog 12 #[.slice A (n) (c), .slice A2 (n2) (c2)] w (Ret fun rv w' => ∃ A3 c3, ((galeV xs ys).length ≤ c3) ∧ rv = .slice A3 ((galeV xs ys).length) (c3) ∧ New w w' [row 3 1 A3 ((galeV xs ys).length) (c3) (cells fI (galeV xs ys))]) := by
  have oA := hA.atB
  subst eA
  have oA2 := hA2.atB
  subst eA2
  refine fn_enter (args := [.slice A (xs.length) (c), .slice A2 (ys.length) (c2)]) Try.func12 rfl Try.ntmps12 rfl (SS.start w) ?_
  refine cw_seq ?_
  refine cw_region ?_
  refine wl_v (ov_assign rfl) rfl rfl rfl ?_
  refine wl_nil ?_
  refine ce_then ?_
  refine cw_seq ?_
  refine cw_seq ?_
  refine cw_region ?_
  refine wl_v (ov_move rfl) rfl rfl rfl ?_
  refine wl_v (ov_move rfl) rfl rfl rfl ?_
  refine wl_r (or_call (fv := []) (vs := [.slice A (xs.length) (c), .slice A2 (ys.length) (c2)]) (cs := []) en10 rfl rfl (call_v (fun w hw => validMI_c w A xs.length c xs A2 ys.length c2 ys ((holds_old oA) w hw) rfl lA ((holds_old oA2) w hw) rfl lA2 (by first | assumption | omega | (simp; omega))))) rfl rfl (kt_if rfl (fun c12 => ?_) (fun c12 => ?_))
  ·
    refine wl_v (ov_not rfl) rfl rfl rfl ?_
    refine wl_nil ?_
    refine ce_then ?_
    refine cw_false rfl ?_
    refine cw_skip ?_
    refine ce_then ?_
    refine cw_seq ?_
    have hV := c12
    have h1 := hV.1
    have h2 := hV.2.1
    have hyes : galeV xs ys = galeL xs ys := if_pos hV
    have hll := galeL_len xs ys
    have hfl := fall_length xs
    have hsm := small_fall hV.smallR
    refine cw_region ?_
    refine wl_v (ov_move rfl) rfl rfl rfl ?_
    refine wl_r (or_call (fv := []) (vs := [.slice A (xs.length) (c)]) (cs := []) en43 rfl rfl (call_x2 (fun w hw => fallingI_c w A xs.length c xs ((holds_old oA) w hw) rfl lA (by first | assumption | omega | (simp; omega))))) rfl rfl (kt2p rfl (fun A2_15 c2_15 h_15 => ?_))
    refine wl_v (ov_assign rfl) rfl rfl rfl ?_
    refine wl_nil ?_
    refine ce_then ?_
    refine cw_seq ?_
    refine cw_region ?_
    refine wl_v (ov_move rfl) rfl rfl rfl ?_
    refine wl_v (ov_len (sliceI_spec sI23) rfl) rfl rfl rfl ?_
    refine wl_r (or_makeSlice (m := xs.length) sI23 tI3 rfl rfl (made_fI _) (by omega) (show xs.length ≤ maxLen by simp only [maxLen]; omega)) rfl rfl (kt1 rfl (fun g18 => ?_))
    refine wl_v (ov_assign rfl) rfl rfl rfl ?_
    refine wl_nil ?_
    refine ce_then ?_
    refine cw_seq ?_
    refine cw_seq ?_
    refine cw_region ?_
    refine wl_v (ov_move rfl) rfl rfl rfl ?_
    refine wl_v (ov_len (sliceI_spec sI23) rfl) rfl rfl rfl ?_
    refine wl_v (ov_move rfl) rfl rfl rfl ?_
    refine wl_nil ?_
    refine ce_then ?_
    refine cw_block ?_
    refine cw_loop1 (fun (k : Nat) => [(1, .slice A2 (ys.length) (c2)), (4, .slice none (0) (0)), (5, .slice A2_15 (xs.length) (xs.length)), (6, .slice (some ⟨g18, 0, none⟩) (xs.length) (xs.length)), (20, .int .i64 (((xs.length : Nat) : Int))), (21, .int .i64 (((k : Nat) : Int)))]) (fun (k : Nat) => [row 3 1 (some ⟨g18, 0, none⟩) (xs.length) (xs.length) (cells fI ((List.range k).map (galeAt xs ys) ++ List.replicate (xs.length - k) 0)), row 3 1 A2_15 (xs.length) (c2_15) (cells fI (fall xs))]) (fun (k : Nat) => k ≤ xs.length) (fun (k : Nat) => xs.length - k) 0 (by omega) (.cons rfl (.cons rfl (.cons rfl (.cons rfl (.cons rfl (.cons (congrArg (fun z => some (Value.int .i64 z)) (show 0 = ((0 : Nat) : Int) by first | omega | rfl | (simp; done))) (.nil))))))) (.consE (show row 3 1 (some ⟨g18, 0, none⟩) (xs.length) (xs.length) (cells fI (List.replicate xs.length 0)) = row 3 1 (some ⟨g18, 0, none⟩) (xs.length) (xs.length) (cells fI ((List.range 0).map (galeAt xs ys) ++ List.replicate (xs.length - 0) 0)) by simp) (.head) (.cons (.head) (.nil))) ?_
    intro R0 k hk hR0
    have htb := fun (hlt : k < xs.length) => total_bd hsm (k + 1) (by omega)
    have hbl : ((List.range k).map (galeAt xs ys) ++ List.replicate (xs.length - k) 0).length = xs.length := by simp; omega
    refine cw_seq ?_
    refine cw_region ?_
    refine wl_if (ov_lss rfl rfl) rfl rfl rfl (fun c22 => ?_) (fun c22 => ?_)
    ·
      have htb2 := htb (by omega)
      refine wl_nil ?_
      refine ce_then ?_
      refine cw_seq ?_
      refine cw_true rfl ?_
      refine cw_skip ?_
      refine ce_then ?_
      refine cw_seq ?_
      refine cw_block ?_
      refine cw_seq ?_
      refine cw_region ?_
      refine wl_v (ov_move rfl) rfl rfl rfl ?_
      refine wl_v (ov_assign rfl) rfl rfl rfl ?_
      refine wl_nil ?_
      refine ce_then ?_
      refine cw_seq ?_
      refine cw_region ?_
      refine wl_v (ov_move rfl) rfl rfl rfl ?_
      refine wl_v (ov_move rfl) rfl rfl rfl ?_
      refine wl_v (ov_move rfl) rfl rfl rfl ?_
      refine wl_v (ov_move rfl) rfl rfl rfl ?_
      refine wl_v (ov_add (r := ((k + 1 : Nat) : Int)) rfl rfl rfl (by omega)) rfl rfl rfl ?_
      refine wl_v (ov_slice_h (h := k + 1) sI23 tI3 rfl rfl (by omega)) rfl rfl rfl ?_
      refine wl_r (or_call (fv := []) (vs := [.slice A2_15 (k + 1) (xs.length)]) (cs := []) en44 rfl rfl (call_v (fun w hw => sumI_c w A2_15 (k + 1) xs.length ((fall xs).take (k + 1)) ((holds_takeC (k := (k + 1)) fI_len (holds_row (List.Mem.tail _ (List.Mem.head _)))) w hw) (by rw [List.length_take, hfl]; omega) (by omega) (hsm.take _)))) rfl rfl (kt0 rfl ?_)
      refine wl_v (ov_neg (r := -(total ((fall xs).take (k + 1)))) rfl rfl (by omega)) rfl rfl rfl ?_
      refine wl_v (ov_index (k := k) (c := xs.length) sI23 tI3 rfl rfl (some_holds (q := k * 1) (holds_row (List.Mem.head _)) (by rw [cells_length fI_len]; have hlt : k < ((List.range k).map (galeAt xs ys) ++ List.replicate (xs.length - k) 0).length := (by first | omega | (rw [hbl]; omega)); omega)) (show k < xs.length from (by first | omega | (rw [hbl]; omega)))) rfl rfl rfl ?_
      refine wl_r0 (or_store_row (vs := [.int .i64 (-(total ((fall xs).take (k + 1))))]) (cs' := cells fI (((List.range k).map (galeAt xs ys) ++ List.replicate (xs.length - k) 0).set k (-(total ((fall xs).take (k + 1)))))) (.head) tI3 rfl rfl rfl rfl (by rw [cells_length fI_len]; have hlt := (show k < ((List.range k).map (galeAt xs ys) ++ List.replicate (xs.length - k) 0).length from (by first | omega | (rw [hbl]; omega))); simp only [List.length_cons, List.length_nil]; omega) (by simp) (cells_splice fI_len (show k < ((List.range k).map (galeAt xs ys) ++ List.replicate (xs.length - k) 0).length from (by first | omega | (rw [hbl]; omega))) (-(total ((fall xs).take (k + 1)))))) rfl rfl (kn0 ?_)
      refine wl_nil ?_
      refine ce_then ?_
      refine cw_seq ?_
      refine cw_region ?_
      refine wl_v (ov_move rfl) rfl rfl rfl ?_
      refine wl_v (ov_len (sliceI_spec sI23) rfl) rfl rfl rfl ?_
      refine wl_v (ov_move rfl) rfl rfl rfl ?_
      refine wl_nil ?_
      refine ce_then ?_
      refine cw_block ?_
      refine cw_loop1 (fun (j : Nat) => [(1, .slice A2 (ys.length) (c2)), (4, .slice none (0) (0)), (5, .slice A2_15 (xs.length) (xs.length)), (6, .slice (some ⟨g18, 0, none⟩) (xs.length) (xs.length)), (7, .int .i64 (((k : Nat) : Int))), (20, .int .i64 (((xs.length : Nat) : Int))), (21, .int .i64 (((k : Nat) : Int))), (33, .slice A2 (ys.length) (c2)), (34, .int .i64 (((ys.length : Nat) : Int))), (35, .int .i64 (((j : Nat) : Int)))]) (fun (j : Nat) => [row 3 1 (some ⟨g18, 0, none⟩) (xs.length) (xs.length) (cells fI (((List.range k).map (galeAt xs ys) ++ List.replicate (xs.length - k) 0).set k (galeTo xs ys k j))), row 3 1 A2_15 (xs.length) (c2_15) (cells fI (fall xs))]) (fun (j : Nat) => j ≤ ys.length) (fun (j : Nat) => ys.length - j) 0 (by omega) (.cons rfl (.cons rfl (.cons rfl (.cons rfl (.cons rfl (.cons rfl (.cons rfl (.cons rfl (.cons rfl (.cons (congrArg (fun z => some (Value.int .i64 z)) (show 0 = ((0 : Nat) : Int) by first | omega | rfl | (simp; done))) (.nil))))))))))) (.consE (show row 3 1 (some ⟨g18, 0, none⟩) (xs.length) (xs.length) (cells fI (((List.range k).map (galeAt xs ys) ++ List.replicate (xs.length - k) 0).set k (-(total ((fall xs).take (k + 1)))))) = row 3 1 (some ⟨g18, 0, none⟩) (xs.length) (xs.length) (cells fI (((List.range k).map (galeAt xs ys) ++ List.replicate (xs.length - k) 0).set k (galeTo xs ys k 0))) by rw [galeTo_zero]) (.head) (.cons (.head) (.nil))) ?_
      intro R1 j hk1 hR1
      have hgb := galeTo_bd hV (i := k) (q := j) (by omega) (by omega)
      refine cw_seq ?_
      refine cw_region ?_
      refine wl_if (ov_lss rfl rfl) rfl rfl rfl (fun c36 => ?_) (fun c36 => ?_)
      ·
        refine wl_nil ?_
        refine ce_then ?_
        refine cw_seq ?_
        refine cw_true rfl ?_
        refine cw_skip ?_
        refine ce_then ?_
        refine cw_seq ?_
        refine cw_block ?_
        refine cw_seq ?_
        refine cw_region ?_
        refine wl_v (ov_index (k := j) (c := c2) sI23 tI3 rfl rfl (some_holds (q := j * 1) (holds_old oA2) (by rw [cells_length fI_len]; have hlt : j < ys.length := (by omega); omega)) (show j < ys.length from (by omega))) rfl rfl rfl ?_
        refine wl_v (ov_load tI3 (holds_old oA2) rfl (get_fI (show j < ys.length from (by omega)))) rfl rfl rfl ?_
        have hx := hV.smallC.at_ (k := j) (by omega)
        refine wl_v (ov_assign rfl) rfl rfl rfl ?_
        refine wl_nil ?_
        refine ce_then ?_
        refine cw_region ?_
        refine wl_v (ov_move rfl) rfl rfl rfl ?_
        refine wl_v (ov_move rfl) rfl rfl rfl ?_
        refine wl_v (ov_index (k := k) (c := xs.length) sI23 tI3 rfl rfl (some_holds (q := k * 1) (holds_row (List.Mem.head _)) (by rw [cells_length fI_len]; have hlt : k < (((List.range k).map (galeAt xs ys) ++ List.replicate (xs.length - k) 0).set k (galeTo xs ys k j)).length := (by first | omega | (rw [List.length_set, hbl]; omega)); omega)) (show k < xs.length from (by first | omega | (rw [List.length_set, hbl]; omega)))) rfl rfl rfl ?_
        refine wl_v (ov_load tI3 (holds_row (List.Mem.head _)) rfl ((get_fI (show k < (((List.range k).map (galeAt xs ys) ++ List.replicate (xs.length - k) 0).set k (galeTo xs ys k j)).length from (by first | omega | (rw [List.length_set, hbl]; omega)))).trans (congrArg (fun z => some (Value.int .i64 z)) (show ((((List.range k).map (galeAt xs ys) ++ List.replicate (xs.length - k) 0).set k (galeTo xs ys k j)).getD k 0) = galeTo xs ys k j from (set_getD 0 _ (by omega)))))) rfl rfl rfl ?_
        refine wl_v (ov_move rfl) rfl rfl rfl ?_
        refine wl_v (ov_move rfl) rfl rfl rfl ?_
        refine wl_v (ov_add (r := ((k + 1 : Nat) : Int)) rfl rfl rfl (by omega)) rfl rfl rfl ?_
        refine wl_v (ov_min (r := min (ys.getD j 0) ((k + 1 : Nat) : Int)) rfl rfl (by first | omega | (split <;> omega))) rfl rfl rfl ?_
        refine wl_v (ov_add (r := (galeTo xs ys k j) + (min (ys.getD j 0) ((k + 1 : Nat) : Int))) rfl rfl rfl (by omega)) rfl rfl rfl ?_
        refine wl_v (ov_index (k := k) (c := xs.length) sI23 tI3 rfl rfl (some_holds (q := k * 1) (holds_row (List.Mem.head _)) (by rw [cells_length fI_len]; have hlt : k < (((List.range k).map (galeAt xs ys) ++ List.replicate (xs.length - k) 0).set k (galeTo xs ys k j)).length := (by first | omega | (rw [List.length_set, hbl]; omega)); omega)) (show k < xs.length from (by first | omega | (rw [List.length_set, hbl]; omega)))) rfl rfl rfl ?_
        refine wl_r0 (or_store_row (vs := [.int .i64 ((galeTo xs ys k j) + (min (ys.getD j 0) ((k + 1 : Nat) : Int)))]) (cs' := cells fI ((((List.range k).map (galeAt xs ys) ++ List.replicate (xs.length - k) 0).set k (galeTo xs ys k j)).set k ((galeTo xs ys k j) + (min (ys.getD j 0) ((k + 1 : Nat) : Int))))) (.head) tI3 rfl rfl rfl rfl (by rw [cells_length fI_len]; have hlt := (show k < (((List.range k).map (galeAt xs ys) ++ List.replicate (xs.length - k) 0).set k (galeTo xs ys k j)).length from (by first | omega | (rw [List.length_set, hbl]; omega))); simp only [List.length_cons, List.length_nil]; omega) (by simp) (cells_splice fI_len (show k < (((List.range k).map (galeAt xs ys) ++ List.replicate (xs.length - k) 0).set k (galeTo xs ys k j)).length from (by first | omega | (rw [List.length_set, hbl]; omega))) ((galeTo xs ys k j) + (min (ys.getD j 0) ((k + 1 : Nat) : Int))))) rfl rfl (kn0 ?_)
        refine wl_nil ?_
        refine ce_block ?_
        refine ce_then ?_
        refine cw_region ?_
        refine wl_v (ov_add (r := ((j + 1 : Nat) : Int)) rfl rfl rfl (by omega)) rfl rfl rfl ?_
        refine wl_v (ov_move rfl) rfl rfl rfl ?_
        refine wl_nil ?_
        exact fun ac_ w_ hs_ => hR1 (j + 1) (by omega) (by omega) ac_ w_ (hs_.weaken (.cons rfl (.cons rfl (.cons rfl (.cons rfl (.cons rfl (.cons rfl (.cons rfl (.cons rfl (.cons rfl (.cons rfl (.nil))))))))))) (.consE (show row 3 1 (some ⟨g18, 0, none⟩) (xs.length) (xs.length) (cells fI ((((List.range k).map (galeAt xs ys) ++ List.replicate (xs.length - k) 0).set k (galeTo xs ys k j)).set k ((galeTo xs ys k j) + (min (ys.getD j 0) ((k + 1 : Nat) : Int))))) = row 3 1 (some ⟨g18, 0, none⟩) (xs.length) (xs.length) (cells fI (((List.range k).map (galeAt xs ys) ++ List.replicate (xs.length - k) 0).set k (galeTo xs ys k (j + 1)))) by rw [List.set_set, galeTo_succ (by omega)]) (.head) (.cons (.head) (.nil))))
      ·
        refine wl_nil ?_
        refine ce_then ?_
        refine cw_seq ?_
        refine cw_false rfl ?_
        refine cw_exit ?_
        refine ce_then_exit ?_
        refine ce_then_exit ?_
        refine ce_hit ?_
        refine ce_block ?_
        refine ce_then ?_
        refine cw_region ?_
        refine wl_v (ov_add (r := ((k + 1 : Nat) : Int)) rfl rfl rfl (by omega)) rfl rfl rfl ?_
        refine wl_v (ov_move rfl) rfl rfl rfl ?_
        refine wl_nil ?_
        exact fun ac_ w_ hs_ => hR0 (k + 1) (by omega) (by omega) ac_ w_ (hs_.weaken (.cons rfl (.cons rfl (.cons rfl (.cons rfl (.cons rfl (.cons rfl (.nil))))))) (.consE (show row 3 1 (some ⟨g18, 0, none⟩) (xs.length) (xs.length) (cells fI (((List.range k).map (galeAt xs ys) ++ List.replicate (xs.length - k) 0).set k (galeTo xs ys k j))) = row 3 1 (some ⟨g18, 0, none⟩) (xs.length) (xs.length) (cells fI ((List.range (k + 1)).map (galeAt xs ys) ++ List.replicate (xs.length - (k + 1)) 0)) by rw [galeTo_end (by omega), made_step (by omega)]) (.head) (.cons (.head) (.nil))))
    ·
      refine wl_nil ?_
      refine ce_then ?_
      refine cw_seq ?_
      refine cw_false rfl ?_
      refine cw_exit ?_
      refine ce_then_exit ?_
      refine ce_then_exit ?_
      refine ce_hit ?_
      refine ce_then ?_
      refine cw_seq ?_
      refine cw_region ?_
      refine wl_v (ov_move rfl) rfl rfl rfl ?_
      refine wl_v (ov_assign rfl) rfl rfl rfl ?_
      refine wl_nil ?_
      refine ce_then ?_
      refine cw_ret ?_
      refine ce_results (v := .slice (some ⟨g18, 0, none⟩) (xs.length) (xs.length)) (res1 rfl (rv_t rfl)) (fun w' hw => ?_)
      exact ⟨some ⟨g18, 0, none⟩, xs.length, (by rw [hyes, hll]; exact Nat.le_refl _), (by rw [hyes, hll]), ((.consE (show row 3 1 (some ⟨g18, 0, none⟩) (xs.length) (xs.length) (cells fI ((List.range k).map (galeAt xs ys) ++ List.replicate (xs.length - k) 0)) = row 3 1 (some ⟨g18, 0, none⟩) ((galeV xs ys).length) (xs.length) (cells fI (galeV xs ys)) by rw [hyes, hll, galeL, show k = xs.length from by omega]; simp) (.head) (.nil) : Keep _ _).ss hw).to_new⟩
  ·
    refine wl_v (ov_not rfl) rfl rfl rfl ?_
    refine wl_nil ?_
    refine ce_then ?_
    refine cw_true rfl ?_
    refine cw_seq ?_
    have hno : galeV xs ys = [] := if_neg c12
    refine ct_none fI 3 1 ?_
    refine cw_region ?_
    refine wl_v (ov_assign rfl) rfl rfl rfl ?_
    refine wl_nil ?_
    refine ce_then ?_
    refine cw_ret ?_
    refine ce_then_ret ?_
    refine ce_results (v := .slice none (0) (0)) (res1 rfl (rv_t rfl)) (fun w' hw => ?_)
    exact ⟨none, 0, (by rw [hno]; exact Nat.le_refl _), (by rw [hno] <;> rfl), ((.consE (show row 3 1 none (0) (0) (cells fI ([])) = row 3 1 none ((galeV xs ys).length) (0) (cells fI (galeV xs ys)) by rw [hno] <;> rfl) (.head) (.nil) : Keep _ _).ss hw).to_new⟩
set_option maxRecDepth 100000 in
theorem IsBigrI_c (w : World) (A : Option Addr) (n : Nat) (c : Nat) (xs : List (Int)) (A2 : Option Addr) (n2 : Nat) (c2 : Nat) (ys : List (Int)) (hA : At w A (cells fI xs)) (eA : xs.length = n) (lA : n ≤ c) (hA2 : At w A2 (cells fI ys)) (eA2 : ys.length = n2) (lA2 : n2 ≤ c2) (hs : xs.length ≤ 1048576 ∧ ys.length ≤ 1048576) : Calls Try.prog 33 #[.slice A (n) (c), .slice A2 (n2) (c2)] w (Ret fun rv w' => rv = .bool (decide (BigrP xs ys)) ∧ New w w' []) := by
  have oA := hA.atB
  subst eA
  have oA2 := hA2.atB
  subst eA2
  refine fn_enter (args := [.slice A (xs.length) (c), .slice A2 (ys.length) (c2)]) Try.func33 rfl Try.ntmps33 rfl (SS.start w) ?_
  refine cw_seq ?_
  refine cw_region ?_
  refine wl_v (ov_assign rfl) rfl rfl rfl ?_
  refine wl_nil ?_
  refine ce_then ?_
  refine cw_seq ?_
  refine cw_region ?_
  refine wl_v (ov_move rfl) rfl rfl rfl ?_
  refine wl_v (ov_move rfl) rfl rfl rfl ?_
  refine wl_r (or_call (fv := []) (vs := [.slice A (xs.length) (c), .slice A2 (ys.length) (c2)]) (cs := []) en10 rfl rfl (call_v (fun w hw => validMI_c w A xs.length c xs A2 ys.length c2 ys ((holds_old oA) w hw) rfl lA ((holds_old oA2) w hw) rfl lA2 (by first | assumption | omega | (simp; omega))))) rfl rfl (kt_if rfl (fun c7 => ?_) (fun c7 => ?_))
  ·
    have h1 := c7.1
    have hyes : galeV xs ys = galeL xs ys := if_pos c7
    have hll := galeL_len xs ys
    refine wl_v (ov_move rfl) rfl rfl rfl ?_
    refine wl_go rfl rfl ?_
    refine wl_v (ov_move rfl) rfl rfl rfl ?_
    refine wl_go rfl rfl ?_
    refine wl_r (or_call (fv := []) (vs := [.slice A (xs.length) (c)]) (cs := []) en44 rfl rfl (call_v (fun w hw => sumI_c w A xs.length c xs ((holds_old oA) w hw) rfl lA c7.smallR))) rfl rfl (kt0 rfl ?_)
    refine wl_go rfl rfl ?_
    refine wl_v (ov_move rfl) rfl rfl rfl ?_
    refine wl_go rfl rfl ?_
    refine wl_r (or_call (fv := []) (vs := [.slice A2 (ys.length) (c2)]) (cs := []) en44 rfl rfl (call_v (fun w hw => sumI_c w A2 ys.length c2 ys ((holds_old oA2) w hw) rfl lA2 c7.smallC))) rfl rfl (kt0 rfl ?_)
    refine wl_go rfl rfl ?_
    refine wl_if (ov_eql rfl rfl) rfl rfl rfl (fun c13 => ?_) (fun c13 => ?_)
    ·
      refine wl_v (ov_pick_t rfl rfl) rfl rfl rfl ?_
      refine wl_v (ov_move rfl) rfl rfl rfl ?_
      refine wl_go rfl rfl ?_
      refine wl_v (ov_move rfl) rfl rfl rfl ?_
      refine wl_go rfl rfl ?_
      refine wl_v (ov_move rfl) rfl rfl rfl ?_
      refine wl_go rfl rfl ?_
      refine wl_r (or_call (fv := []) (vs := [.slice A (xs.length) (c), .slice A2 (ys.length) (c2)]) (cs := []) en12 rfl rfl (call_x2 (fun w hw => GaleSlacksI_c w A xs.length c xs A2 ys.length c2 ys ((holds_old oA) w hw) rfl lA ((holds_old oA2) w hw) rfl lA2 (by first | assumption | omega | (simp; omega))))) rfl rfl (kt2p rfl (fun A3_18 c3_18 h_18 => ?_))
      refine wl_go rfl rfl ?_
      refine wl_r (or_call (fv := []) (vs := [.slice A3_18 ((galeV xs ys).length) (c3_18)]) (cs := []) en52 rfl rfl (call_v (fun w hw => min_c w A3_18 ((galeV xs ys).length) c3_18 (galeV xs ys) ((holds_row (List.Mem.head _)) w hw) rfl h_18 (by rw [hyes, hll]; omega)))) rfl rfl (kt0 rfl ?_)
      refine wl_go rfl rfl ?_
      refine wl_if (ov_geq rfl rfl) rfl rfl rfl (fun c20 => ?_) (fun c20 => ?_)
      ·
        refine wl_v (ov_pick_t rfl rfl) rfl rfl rfl ?_
        refine wl_v (ov_assign rfl) rfl rfl rfl ?_
        refine wl_nil ?_
        refine ce_then ?_
        refine cw_ret ?_
        refine ce_results (v := .bool true) (res1 rfl (rv_t rfl)) (fun w' hw => ?_)
        exact ⟨(bt ⟨c7, c13, fun x hx => by have h3 := (minTo_all (d := galeL xs ys) (b := -1) (by omega)).1 (by rw [hyes] at c20; omega) x hx; omega⟩), (Keep.nil.ss hw).to_new⟩
      ·
        refine wl_v (ov_pick_t rfl rfl) rfl rfl rfl ?_
        refine wl_v (ov_assign rfl) rfl rfl rfl ?_
        refine wl_nil ?_
        refine ce_then ?_
        refine cw_ret ?_
        refine ce_results (v := .bool false) (res1 rfl (rv_t rfl)) (fun w' hw => ?_)
        exact ⟨(bf (fun h => c20 (by rw [hyes]; have h3 := (minTo_all (d := galeL xs ys) (b := -1) (by omega)).2 (fun x hx => by have := h.2.2 x hx; omega); omega))), (Keep.nil.ss hw).to_new⟩
    ·
      refine wl_v (ov_pick_t rfl rfl) rfl rfl rfl ?_
      refine wl_v (ov_move rfl) rfl rfl rfl ?_
      refine wl_not rfl rfl rfl rfl rfl rfl ?_
      refine wl_not rfl rfl rfl rfl rfl rfl ?_
      refine wl_not rfl rfl rfl rfl rfl rfl ?_
      refine wl_not rfl rfl rfl rfl rfl rfl ?_
      refine wl_not rfl rfl rfl rfl rfl rfl ?_
      refine wl_v (ov_pick_f rfl rfl) rfl rfl rfl ?_
      refine wl_v (ov_assign rfl) rfl rfl rfl ?_
      refine wl_nil ?_
      refine ce_then ?_
      refine cw_ret ?_
      refine ce_results (v := .bool false) (res1 rfl (rv_t rfl)) (fun w' hw => ?_)
      exact ⟨(bf (fun h => c13 h.2.1)), (Keep.nil.ss hw).to_new⟩
  ·
    refine wl_v (ov_move rfl) rfl rfl rfl ?_
    refine wl_not rfl rfl rfl rfl rfl rfl ?_
    refine wl_not rfl rfl rfl rfl rfl rfl ?_
    refine wl_not rfl rfl rfl rfl rfl rfl ?_
    refine wl_not rfl rfl rfl rfl rfl rfl ?_
    refine wl_not rfl rfl rfl rfl rfl rfl ?_
    refine wl_v (ov_pick_f rfl rfl) rfl rfl rfl ?_
    refine wl_v (ov_move rfl) rfl rfl rfl ?_
    refine wl_not rfl rfl rfl rfl rfl rfl ?_
    refine wl_not rfl rfl rfl rfl rfl rfl ?_
    refine wl_not rfl rfl rfl rfl rfl rfl ?_
    refine wl_not rfl rfl rfl rfl rfl rfl ?_
    refine wl_not rfl rfl rfl rfl rfl rfl ?_
    refine wl_v (ov_pick_f rfl rfl) rfl rfl rfl ?_
    refine wl_v (ov_assign rfl) rfl rfl rfl ?_
    refine wl_nil ?_
    refine ce_then ?_
    refine cw_ret ?_
    refine ce_results (v := .bool false) (res1 rfl (rv_t rfl)) (fun w' hw => ?_)
    exact ⟨(bf (fun h => c7 h.1)), (Keep.nil.ss hw).to_new⟩
set_option maxRecDepth 100000 in
theorem StrongS_c (w : World) (A : Option Addr) (n : Nat) (c : Nat) (xs : List (Int)) (hA : At w A (cells fI xs)) (eA : xs.length = n) (lA : n ≤ c) (hs : xs.length ≤ 1048576) : Calls Try.prog 20 #[.slice A (n) (c)] w (Ret fun rv w' => rv = .bool (decide (StrongP xs)) ∧ New w w' []) := by
  have oA := hA.atB
  subst eA
  refine fn_enter (args := [.slice A (xs.length) (c)]) Try.func20 rfl Try.ntmps20 rfl (SS.start w) ?_
  refine cw_seq ?_
  refine cw_region ?_
  refine wl_v (ov_assign rfl) rfl rfl rfl ?_
  refine wl_nil ?_
  refine ce_then ?_
  refine cw_seq ?_
  refine cw_seq ?_
  refine cw_region ?_
  refine wl_v (ov_move rfl) rfl rfl rfl ?_
  refine wl_r (or_call (fv := []) (vs := [.slice A (xs.length) (c)]) (cs := []) en49 rfl rfl (call_v (fun w hw => validSc_c w A xs.length c xs ((holds_old oA) w hw) rfl lA (by first | assumption | omega | (simp; omega))))) rfl rfl (kt_if rfl (fun c6 => ?_) (fun c6 => ?_))
  ·
    refine wl_v (ov_not rfl) rfl rfl rfl ?_
    refine wl_v (ov_move rfl) rfl rfl rfl ?_
    refine wl_go rfl rfl ?_
    refine wl_v (ov_move rfl) rfl rfl rfl ?_
    refine wl_go rfl rfl ?_
    refine wl_r (or_call (fv := []) (vs := [.slice A (xs.length) (c)]) (cs := []) en50 rfl rfl (call_v (fun w hw => isScores_c w A xs.length c xs ((holds_old oA) w hw) rfl lA c6))) rfl rfl (kt_if rfl (fun c10 => ?_) (fun c10 => ?_))
    ·
      refine wl_go rfl rfl ?_
      refine wl_v (ov_not rfl) rfl rfl rfl ?_
      refine wl_v (ov_pick_f rfl rfl) rfl rfl rfl ?_
      refine wl_nil ?_
      refine ce_then ?_
      refine cw_false rfl ?_
      refine cw_skip ?_
      refine ce_then ?_
      refine cw_seq ?_
      have hl0 := c6.1
      have hl1 := c6.2.1
      refine cw_region ?_
      refine wl_v (ov_move rfl) rfl rfl rfl ?_
      refine wl_r (or_call (fv := []) (vs := [.slice A (xs.length) (c)]) (cs := []) en51 rfl rfl (call_x2 (fun w hw => scoreSlacks_c w A xs.length c xs ((holds_old oA) w hw) rfl lA c6.small))) rfl rfl (kt2p rfl (fun A2_14 c2_14 h_14 => ?_))
      refine wl_v (ov_assign rfl) rfl rfl rfl ?_
      refine wl_nil ?_
      refine ce_then ?_
      refine cw_seq ?_
      refine cw_seq ?_
      refine cw_region ?_
      refine wl_v (ov_assign rfl) rfl rfl rfl ?_
      refine wl_nil ?_
      refine ce_then ?_
      refine cw_block ?_
      refine cw_loop1 (fun (k : Nat) => [(3, .slice A2_14 (xs.length) (c2_14)), (4, .int .i64 (((k : Nat) : Int)))]) (fun (k : Nat) => [row 3 1 A2_14 (xs.length) (c2_14) (cells fI (scoreL xs))]) (fun (k : Nat) => k < xs.length ∧ ∀ q, q < k → (scoreL xs).getD q 0 ≠ 0) (fun (k : Nat) => xs.length - k) 0 ⟨by omega, fun q hq => absurd hq (Nat.not_lt_zero _)⟩ (.cons rfl (.cons (congrArg (fun z => some (Value.int .i64 z)) (show 0 = ((0 : Nat) : Int) by first | omega | rfl | (simp; done))) (.nil))) (.cons (.head) (.nil)) ?_
      intro R0 k hk hR0
      obtain ⟨hk1, hk2⟩ := hk
      have hll := scoreL_len xs
      refine cw_seq ?_
      refine cw_seq ?_
      refine cw_region ?_
      refine wl_v (ov_move rfl) rfl rfl rfl ?_
      refine wl_v (ov_add (r := ((k + 1 : Nat) : Int)) rfl rfl rfl (by omega)) rfl rfl rfl ?_
      refine wl_v (ov_move rfl) rfl rfl rfl ?_
      refine wl_v (ov_len (sliceI_spec sI23) rfl) rfl rfl rfl ?_
      refine wl_if (ov_lss rfl rfl) rfl rfl rfl (fun c19 => ?_) (fun c19 => ?_)
      ·
        refine wl_nil ?_
        refine ce_then ?_
        refine cw_true rfl ?_
        refine cw_skip ?_
        refine ce_then ?_
        refine cw_seq ?_
        refine cw_block ?_
        refine cw_seq ?_
        refine cw_region ?_
        refine wl_v (ov_move rfl) rfl rfl rfl ?_
        refine wl_v (ov_move rfl) rfl rfl rfl ?_
        refine wl_v (ov_index (k := k) (c := c2_14) sI23 tI3 rfl rfl (some_holds (q := k * 1) (holds_row (List.Mem.head _)) (by rw [cells_length fI_len]; have hlt : k < (scoreL xs).length := (by first | omega | (simp; omega)); omega)) (show k < xs.length from (by first | omega | (simp; omega)))) rfl rfl rfl ?_
        refine wl_v (ov_load tI3 (holds_row (List.Mem.head _)) rfl (get_fI (show k < (scoreL xs).length from (by first | omega | (simp; omega))))) rfl rfl rfl ?_
        refine wl_if (ov_eql rfl rfl) rfl rfl rfl (fun c26 => ?_) (fun c26 => ?_)
        ·
          refine wl_nil ?_
          refine ce_then ?_
          refine cw_true rfl ?_
          refine cw_seq ?_
          refine cw_region ?_
          refine wl_v (ov_assign rfl) rfl rfl rfl ?_
          refine wl_nil ?_
          refine ce_then ?_
          refine cw_ret ?_
          refine ce_block_ret ?_
          refine ce_then_ret ?_
          refine ce_then_ret ?_
          refine ce_block_ret ?_
          refine ce_then_ret ?_
          refine ce_results (v := .bool false) (res1 rfl (rv_t rfl)) (fun w' hw => ?_)
          exact ⟨(bf (fun h => h.2 k (by omega) c26)), (Keep.nil.ss hw).to_new⟩
        ·
          refine wl_nil ?_
          refine ce_then ?_
          refine cw_false rfl ?_
          refine cw_skip ?_
          refine ce_block ?_
          refine ce_then ?_
          refine cw_region ?_
          refine wl_v (ov_move rfl) rfl rfl rfl ?_
          refine wl_v (ov_add (r := ((k + 1 : Nat) : Int)) rfl rfl rfl (by omega)) rfl rfl rfl ?_
          refine wl_v (ov_assign rfl) rfl rfl rfl ?_
          refine wl_nil ?_
          exact fun ac_ w_ hs_ => hR0 (k + 1) ⟨by omega, fun q hq => by rcases Nat.lt_succ_iff_lt_or_eq.1 hq with h | rfl; exact hk2 q h; exact c26⟩ (by omega) ac_ w_ (hs_.weaken (.cons rfl (.cons rfl (.nil))) (.cons (.head) (.nil)))
      ·
        refine wl_nil ?_
        refine ce_then ?_
        refine cw_false rfl ?_
        refine cw_exit ?_
        refine ce_then_exit ?_
        refine ce_then_exit ?_
        refine ce_hit ?_
        refine ce_then ?_
        refine cw_seq ?_
        refine cw_region ?_
        refine wl_v (ov_assign rfl) rfl rfl rfl ?_
        refine wl_nil ?_
        refine ce_then ?_
        refine cw_ret ?_
        refine ce_results (v := .bool true) (res1 rfl (rv_t rfl)) (fun w' hw => ?_)
        exact ⟨(bt ⟨⟨c6, c10⟩, fun q hq => hk2 q (by omega)⟩), (Keep.nil.ss hw).to_new⟩
    ·
      refine wl_go rfl rfl ?_
      refine wl_v (ov_not rfl) rfl rfl rfl ?_
      refine wl_v (ov_pick_f rfl rfl) rfl rfl rfl ?_
      refine wl_nil ?_
      refine ce_then ?_
      refine cw_true rfl ?_
      refine cw_seq ?_
      refine cw_region ?_
      refine wl_v (ov_assign rfl) rfl rfl rfl ?_
      refine wl_nil ?_
      refine ce_then ?_
      refine cw_ret ?_
      refine ce_then_ret ?_
      refine ce_results (v := .bool false) (res1 rfl (rv_t rfl)) (fun w' hw => ?_)
      exact ⟨(bf (fun h => c10 h.1.2)), (Keep.nil.ss hw).to_new⟩
  ·
    refine wl_v (ov_not rfl) rfl rfl rfl ?_
    refine wl_v (ov_move rfl) rfl rfl rfl ?_
    refine wl_not rfl rfl rfl rfl rfl rfl ?_
    refine wl_not rfl rfl rfl rfl rfl rfl ?_
    refine wl_not rfl rfl rfl rfl rfl rfl ?_
    refine wl_v (ov_pick_t rfl rfl) rfl rfl rfl ?_
    refine wl_nil ?_
    refine ce_then ?_
    refine cw_true rfl ?_
    refine cw_seq ?_
    refine cw_region ?_
    refine wl_v (ov_assign rfl) rfl rfl rfl ?_
    refine wl_nil ?_
    refine ce_then ?_
    refine cw_ret ?_
    refine ce_then_ret ?_
    refine ce_results (v := .bool false) (res1 rfl (rv_t rfl)) (fun w' hw => ?_)
    exact ⟨(bf (fun h => c6 h.1.1)), (Keep.nil.ss hw).to_new⟩
set_option maxRecDepth 100000 in
theorem StrongI_c (w : World) (A : Option Addr) (n : Nat) (c : Nat) (xs : List (Int)) (hA : At w A (cells fI xs)) (eA : xs.length = n) (lA : n ≤ c) (hs : xs.length ≤ 1048576) : Calls Try.prog 19 #[.slice A (n) (c)] w (Ret fun rv w' => rv = .bool (decide (StrongP xs)) ∧ New w w' []) := by
  have oA := hA.atB
  subst eA
  refine fn_enter (args := [.slice A (xs.length) (c)]) Try.func19 rfl Try.ntmps19 rfl (SS.start w) ?_
  refine cw_seq ?_
  refine cw_region ?_
  refine wl_v (ov_assign rfl) rfl rfl rfl ?_
  refine wl_nil ?_
  refine ce_then ?_
  refine cw_seq ?_
  refine cw_region ?_
  refine wl_v (ov_move rfl) rfl rfl rfl ?_
  refine wl_r (or_call (fv := []) (vs := [.slice A (xs.length) (c)]) (cs := []) en21 rfl rfl (call_v (fun w hw => IsScoresI_c w A xs.length c xs ((holds_old oA) w hw) rfl lA (by first | assumption | omega | (simp; omega))))) rfl rfl (kt_if rfl (fun c4 => ?_) (fun c4 => ?_))
  ·
    have hl0 := c4.1.1
    have hl1 := c4.1.2.1
    have hll := scoreL_len xs
    refine wl_v (ov_move rfl) rfl rfl rfl ?_
    refine wl_go rfl rfl ?_
    refine wl_v (ov_move rfl) rfl rfl rfl ?_
    refine wl_go rfl rfl ?_
    refine wl_r (or_call (fv := []) (vs := [.slice A (xs.length) (c)]) (cs := []) en48 rfl rfl (call_x2 (fun w hw => over_c w A xs.length c xs ((holds_old oA) w hw) rfl lA c4.1.small))) rfl rfl (kt2p rfl (fun A2_7 c2_7 h_7 => ?_))
    refine wl_go rfl rfl ?_
    refine wl_r (or_call (fv := []) (vs := [.slice A2_7 (xs.length) (c2_7), .int .i64 (0)]) (cs := []) en47 rfl rfl (call_v (fun w hw => indexI_c w A2_7 xs.length c2_7 (scoreL xs) 0 ((holds_row (List.Mem.head _)) w hw) hll h_7 (by omega)))) rfl rfl (kt0 rfl ?_)
    refine wl_go rfl rfl ?_
    refine wl_v (ov_move rfl) rfl rfl rfl ?_
    refine wl_go rfl rfl ?_
    refine wl_v (ov_len (sliceI_spec sI23) rfl) rfl rfl rfl ?_
    refine wl_go rfl rfl ?_
    refine wl_v (ov_sub (r := ((xs.length : Nat) : Int) - 1) rfl rfl rfl (by omega)) rfl rfl rfl ?_
    refine wl_go rfl rfl ?_
    refine wl_if (ov_eql rfl rfl) rfl rfl rfl (fun c12 => ?_) (fun c12 => ?_)
    ·
      refine wl_v (ov_pick_t rfl rfl) rfl rfl rfl ?_
      refine wl_v (ov_assign rfl) rfl rfl rfl ?_
      refine wl_nil ?_
      refine ce_then ?_
      refine cw_ret ?_
      refine ce_results (v := .bool true) (res1 rfl (rv_t rfl)) (fun w' hw => ?_)
      exact ⟨(bt ⟨c4, (idx_last hll (by omega) c4.2.2).1 (by omega)⟩), (Keep.nil.ss hw).to_new⟩
    ·
      refine wl_v (ov_pick_t rfl rfl) rfl rfl rfl ?_
      refine wl_v (ov_assign rfl) rfl rfl rfl ?_
      refine wl_nil ?_
      refine ce_then ?_
      refine cw_ret ?_
      refine ce_results (v := .bool false) (res1 rfl (rv_t rfl)) (fun w' hw => ?_)
      exact ⟨(bf (fun h => c12 (by have := (idx_last hll (by omega) c4.2.2).2 h.2; omega))), (Keep.nil.ss hw).to_new⟩
  ·
    refine wl_v (ov_move rfl) rfl rfl rfl ?_
    refine wl_not rfl rfl rfl rfl rfl rfl ?_
    refine wl_not rfl rfl rfl rfl rfl rfl ?_
    refine wl_not rfl rfl rfl rfl rfl rfl ?_
    refine wl_not rfl rfl rfl rfl rfl rfl ?_
    refine wl_not rfl rfl rfl rfl rfl rfl ?_
    refine wl_not rfl rfl rfl rfl rfl rfl ?_
    refine wl_not rfl rfl rfl rfl rfl rfl ?_
    refine wl_v (ov_pick_f rfl rfl) rfl rfl rfl ?_
    refine wl_v (ov_assign rfl) rfl rfl rfl ?_
    refine wl_nil ?_
    refine ce_then ?_
    refine cw_ret ?_
    refine ce_results (v := .bool false) (res1 rfl (rv_t rfl)) (fun w' hw => ?_)
    exact ⟨(bf (fun h => c4 h.1)), (Keep.nil.ss hw).to_new⟩
end Go.Proofs.Ytholcpgoioaccaa.W10
