/- Walks of functions of the given program: each returns what its Lean function says and leaves the memory that was there as it was. Conditions: those of each theorem. -/
import Derived.Test.YtebbejphopplbaaSm
import Derived.Test.YtebbejphopplbaaProg
import Derived.Test.YtebbejphopplbaaPl
import Derived.Test.YtebbejphopplbaaPo
import Derived.Test.YtebbejphopplbaaPd
import Derived.Test.YtebbejphopplbaaPe
import Derived.Test.YtebbejphopplbaaPh
import Derived.Test.YtebbejphopplbaaPm
import Derived.Test.YtebbejphopplbaaPc
import Derived.Test.YtebbejphopplbaaPs
import Derived.Test.YtebbejphopplbaaPt
import Derived.Test.YtebbejphopplbaaPu
import Derived.Test.YtebbejphopplbaaPv
import Derived.Test.YtebbejphopplbaaT
import Derived.Test.YtebbejphopplbaaW1
import Derived.Test.YtebbejphopplbaaW2
import Derived.KernelRfl
namespace Go.Proofs.Ytebbejphopplbaa.W10
open Go.Sx Go.RowKit Go.Proofs.Ytebbejphopplbaa.T Go.Proofs.Ytebbejphopplbaa.W1 Go.Proofs.Ytebbejphopplbaa.W2
open Go.Plain
set_option linter.unusedVariables false
set_option maxRecDepth 100000 in
theorem validMS_c (w : World) (A : Option Addr) (n : Nat) (c : Nat) (xs : List (Int)) (A2 : Option Addr) (n2 : Nat) (c2 : Nat) (ys : List (Int)) (hA : At w A (cells fI xs)) (eA : xs.length = n) (lA : n ≤ c) (hA2 : At w A2 (cells fI ys)) (eA2 : ys.length = n2) (lA2 : n2 ≤ c2) (hs : xs.length ≤ 1048576 ∧ ys.length ≤ 1048576) : Calls Try.prog 66 #[.slice A (n) (c), .slice A2 (n2) (c2)] w (Ret fun rv w' => rv = .bool (decide (ValidM xs ys)) ∧ New w w' []) := by
  have oA := hA.atB
  subst eA
  have oA2 := hA2.atB
  subst eA2
  refine fn_enter (args := [.slice A (xs.length) (c), .slice A2 (ys.length) (c2)]) Try.func66 rfl Try.ntmps66 rfl (SS.start w) ?_
  refine cw_seq ?_
  refine cw_region ?_
  refine wl_v (ov_assign rfl) rfl rfl rfl ?_
  refine wl_nil ?_
  refine ce_then ?_
  refine cw_seq ?_
  refine cw_seq ?_
  refine cw_region ?_
  refine wl_v (ov_assign rfl) rfl rfl rfl ?_
  refine wl_nil ?_
  refine ce_then ?_
  refine cw_block ?_
  refine cw_loop1 (fun (k : Nat) => [(0, .slice A (xs.length) (c)), (1, .slice A2 (ys.length) (c2)), (5, .int .i64 (((k : Nat) : Int)))]) (fun (k : Nat) => []) (fun (k : Nat) => k ≤ xs.length ∧ ∀ x ∈ xs.take k, 0 ≤ x ∧ x ≤ (ys.length : Int)) (fun (k : Nat) => xs.length - k) 0 ⟨by omega, by simp⟩ (.cons rfl (.cons rfl (.cons (congrArg (fun z => some (Value.int .i64 z)) (show 0 = ((0 : Nat) : Int) by first | omega | rfl | (simp; done))) (.nil)))) (.nil) ?_
  intro R0 k hk hR0
  obtain ⟨ha1, ha2⟩ := hk
  refine cw_seq ?_
  refine cw_seq ?_
  refine cw_region ?_
  refine wl_v (ov_move rfl) rfl rfl rfl ?_
  refine wl_v (ov_move rfl) rfl rfl rfl ?_
  refine wl_v (ov_len (sliceI_spec sI26) rfl) rfl rfl rfl ?_
  refine wl_if (ov_lss rfl rfl) rfl rfl rfl (fun c10 => ?_) (fun c10 => ?_)
  ·
    refine wl_nil ?_
    refine ce_then ?_
    refine cw_true rfl ?_
    refine cw_skip ?_
    refine ce_then ?_
    refine cw_seq ?_
    refine cw_block ?_
    refine cw_seq ?_
    refine cw_region ?_
    refine wl_v (ov_move rfl) rfl rfl rfl ?_
    refine wl_v (ov_move rfl) rfl rfl rfl ?_
    refine wl_v (ov_index (k := k) (c := c) sI26 tI3 rfl rfl (some_holds (q := k * 1) (holds_old oA) (by rw [cells_length fI_len]; have hlt : k < xs.length := (by first | omega | (simp; omega)); omega)) (show k < xs.length from (by first | omega | (simp; omega)))) rfl rfl rfl ?_
    refine wl_v (ov_load tI3 (holds_old oA) rfl (get_fI (show k < xs.length from (by first | omega | (simp; omega))))) rfl rfl rfl ?_
    refine wl_v (ov_move rfl) rfl rfl rfl ?_
    refine wl_v (ov_len (sliceI_spec sI26) rfl) rfl rfl rfl ?_
    refine wl_r (or_call (fv := []) (vs := [.int .i64 ((xs.getD k 0)), .int .i64 (0), .int .i64 (((ys.length : Nat) : Int))]) (cs := []) en78 rfl rfl (call_v (fun w hw => inRange_c w (xs.getD k 0) 0 ((ys.length : Nat) : Int) ))) rfl rfl (kt_if rfl (fun c19 => ?_) (fun c19 => ?_))
    ·
      refine wl_v (ov_not rfl) rfl rfl rfl ?_
      refine wl_nil ?_
      refine ce_then ?_
      refine cw_false rfl ?_
      refine cw_skip ?_
      refine ce_block ?_
      refine ce_then ?_
      refine cw_region ?_
      refine wl_v (ov_move rfl) rfl rfl rfl ?_
      refine wl_v (ov_add (r := ((k + 1 : Nat) : Int)) rfl rfl rfl (by omega)) rfl rfl rfl ?_
      refine wl_v (ov_assign rfl) rfl rfl rfl ?_
      refine wl_nil ?_
      exact fun ac_ w_ hs_ => hR0 (k + 1) ⟨by omega, all_take_step 0 (by omega) ha2 (by omega)⟩ (by omega) ac_ w_ (hs_.weaken (.cons rfl (.cons rfl (.cons rfl (.nil)))) (.nil))
    ·
      refine wl_v (ov_not rfl) rfl rfl rfl ?_
      refine wl_nil ?_
      refine ce_then ?_
      refine cw_true rfl ?_
      refine cw_seq ?_
      refine cw_region ?_
      refine wl_v (ov_assign rfl) rfl rfl rfl ?_
      refine wl_nil ?_
      refine ce_then ?_
      refine cw_ret ?_
      refine ce_block_ret ?_
      refine ce_then_ret ?_
      refine ce_then_ret ?_
      refine ce_block_ret ?_
      refine ce_then_ret ?_
      refine ce_results (v := .bool false) (res1 rfl (rv_t rfl)) (fun w' hw => ?_)
      exact ⟨(bf (fun h => c19 (h.2.2.1 _ (getD_mem 0 (by omega))))), (Keep.nil.ss hw).to_new⟩
  ·
    refine wl_nil ?_
    refine ce_then ?_
    refine cw_false rfl ?_
    refine cw_exit ?_
    refine ce_then_exit ?_
    refine ce_then_exit ?_
    refine ce_hit ?_
    refine ce_then ?_
    refine cw_seq ?_
    refine cw_seq ?_
    refine cw_region ?_
    refine wl_v (ov_assign rfl) rfl rfl rfl ?_
    refine wl_nil ?_
    refine ce_then ?_
    refine cw_block ?_
    refine cw_loop1 (fun (q : Nat) => [(0, .slice A (xs.length) (c)), (1, .slice A2 (ys.length) (c2)), (6, .int .i64 (((q : Nat) : Int)))]) (fun (q : Nat) => []) (fun (q : Nat) => q ≤ ys.length ∧ ∀ x ∈ ys.take q, 0 ≤ x ∧ x ≤ (xs.length : Int)) (fun (q : Nat) => ys.length - q) 0 ⟨by omega, by simp⟩ (.cons rfl (.cons rfl (.cons (congrArg (fun z => some (Value.int .i64 z)) (show 0 = ((0 : Nat) : Int) by first | omega | rfl | (simp; done))) (.nil)))) (.nil) ?_
    intro R1 q hk1 hR1
    obtain ⟨hb1, hb2⟩ := hk1
    refine cw_seq ?_
    refine cw_seq ?_
    refine cw_region ?_
    refine wl_v (ov_move rfl) rfl rfl rfl ?_
    refine wl_v (ov_move rfl) rfl rfl rfl ?_
    refine wl_v (ov_len (sliceI_spec sI26) rfl) rfl rfl rfl ?_
    refine wl_if (ov_lss rfl rfl) rfl rfl rfl (fun c24 => ?_) (fun c24 => ?_)
    ·
      refine wl_nil ?_
      refine ce_then ?_
      refine cw_true rfl ?_
      refine cw_skip ?_
      refine ce_then ?_
      refine cw_seq ?_
      refine cw_block ?_
      refine cw_seq ?_
      refine cw_region ?_
      refine wl_v (ov_move rfl) rfl rfl rfl ?_
      refine wl_v (ov_move rfl) rfl rfl rfl ?_
      refine wl_v (ov_index (k := q) (c := c2) sI26 tI3 rfl rfl (some_holds (q := q * 1) (holds_old oA2) (by rw [cells_length fI_len]; have hlt : q < ys.length := (by first | omega | (simp; omega)); omega)) (show q < ys.length from (by first | omega | (simp; omega)))) rfl rfl rfl ?_
      refine wl_v (ov_load tI3 (holds_old oA2) rfl (get_fI (show q < ys.length from (by first | omega | (simp; omega))))) rfl rfl rfl ?_
      refine wl_v (ov_move rfl) rfl rfl rfl ?_
      refine wl_v (ov_len (sliceI_spec sI26) rfl) rfl rfl rfl ?_
      refine wl_r (or_call (fv := []) (vs := [.int .i64 ((ys.getD q 0)), .int .i64 (0), .int .i64 (((xs.length : Nat) : Int))]) (cs := []) en78 rfl rfl (call_v (fun w hw => inRange_c w (ys.getD q 0) 0 ((xs.length : Nat) : Int) ))) rfl rfl (kt_if rfl (fun c33 => ?_) (fun c33 => ?_))
      ·
        refine wl_v (ov_not rfl) rfl rfl rfl ?_
        refine wl_nil ?_
        refine ce_then ?_
        refine cw_false rfl ?_
        refine cw_skip ?_
        refine ce_block ?_
        refine ce_then ?_
        refine cw_region ?_
        refine wl_v (ov_move rfl) rfl rfl rfl ?_
        refine wl_v (ov_add (r := ((q + 1 : Nat) : Int)) rfl rfl rfl (by omega)) rfl rfl rfl ?_
        refine wl_v (ov_assign rfl) rfl rfl rfl ?_
        refine wl_nil ?_
        exact fun ac_ w_ hs_ => hR1 (q + 1) ⟨by omega, all_take_step 0 (by omega) hb2 (by omega)⟩ (by omega) ac_ w_ (hs_.weaken (.cons rfl (.cons rfl (.cons rfl (.nil)))) (.nil))
      ·
        refine wl_v (ov_not rfl) rfl rfl rfl ?_
        refine wl_nil ?_
        refine ce_then ?_
        refine cw_true rfl ?_
        refine cw_seq ?_
        refine cw_region ?_
        refine wl_v (ov_assign rfl) rfl rfl rfl ?_
        refine wl_nil ?_
        refine ce_then ?_
        refine cw_ret ?_
        refine ce_block_ret ?_
        refine ce_then_ret ?_
        refine ce_then_ret ?_
        refine ce_block_ret ?_
        refine ce_then_ret ?_
        refine ce_results (v := .bool false) (res1 rfl (rv_t rfl)) (fun w' hw => ?_)
        exact ⟨(bf (fun h => c33 (h.2.2.2 _ (getD_mem 0 (by omega))))), (Keep.nil.ss hw).to_new⟩
    ·
      refine wl_nil ?_
      refine ce_then ?_
      refine cw_false rfl ?_
      refine cw_exit ?_
      refine ce_then_exit ?_
      refine ce_then_exit ?_
      refine ce_hit ?_
      refine ce_then ?_
      refine cw_seq ?_
      refine cw_region ?_
      refine wl_v (ov_move rfl) rfl rfl rfl ?_
      refine wl_v (ov_len (sliceI_spec sI26) rfl) rfl rfl rfl ?_
      refine wl_r (or_call (fv := []) (vs := [.int .i64 (((xs.length : Nat) : Int)), .int .i64 (1), .int .i64 (5)]) (cs := []) en78 rfl rfl (call_v (fun w hw => inRange_c w ((xs.length : Nat) : Int) 1 5 ))) rfl rfl (kt_if rfl (fun c37 => ?_) (fun c37 => ?_))
      ·
        refine wl_v (ov_move rfl) rfl rfl rfl ?_
        refine wl_go rfl rfl ?_
        refine wl_v (ov_move rfl) rfl rfl rfl ?_
        refine wl_go rfl rfl ?_
        refine wl_v (ov_len (sliceI_spec sI26) rfl) rfl rfl rfl ?_
        refine wl_go rfl rfl ?_
        refine wl_r (or_call (fv := []) (vs := [.int .i64 (((ys.length : Nat) : Int)), .int .i64 (1), .int .i64 (5)]) (cs := []) en78 rfl rfl (call_v (fun w hw => inRange_c w ((ys.length : Nat) : Int) 1 5 ))) rfl rfl (kt_if rfl (fun c41 => ?_) (fun c41 => ?_))
        ·
          refine wl_v (ov_pick_t rfl rfl) rfl rfl rfl ?_
          refine wl_v (ov_assign rfl) rfl rfl rfl ?_
          refine wl_nil ?_
          refine ce_then ?_
          refine cw_ret ?_
          refine ce_results (v := .bool true) (res1 rfl (rv_t rfl)) (fun w' hw => ?_)
          exact ⟨(bt ⟨by omega, by omega, take_all (k := k) (by omega) ha2, take_all (k := q) (by omega) hb2⟩), (Keep.nil.ss hw).to_new⟩
        ·
          refine wl_v (ov_pick_t rfl rfl) rfl rfl rfl ?_
          refine wl_v (ov_assign rfl) rfl rfl rfl ?_
          refine wl_nil ?_
          refine ce_then ?_
          refine cw_ret ?_
          refine ce_results (v := .bool false) (res1 rfl (rv_t rfl)) (fun w' hw => ?_)
          exact ⟨(bf (fun h => c41 (by have := h.2.1; omega))), (Keep.nil.ss hw).to_new⟩
      ·
        refine wl_v (ov_move rfl) rfl rfl rfl ?_
        refine wl_not rfl rfl rfl rfl rfl rfl ?_
        refine wl_not rfl rfl rfl rfl rfl rfl ?_
        refine wl_not rfl rfl rfl rfl rfl rfl ?_
        refine wl_v (ov_pick_f rfl rfl) rfl rfl rfl ?_
        refine wl_v (ov_assign rfl) rfl rfl rfl ?_
        refine wl_nil ?_
        refine ce_then ?_
        refine cw_ret ?_
        refine ce_results (v := .bool false) (res1 rfl (rv_t rfl)) (fun w' hw => ?_)
        exact ⟨(bf (fun h => c37 (by have := h.1; omega))), (Keep.nil.ss hw).to_new⟩
set_option maxRecDepth 100000 in
theorem validMI_c (w : World) (A : Option Addr) (n : Nat) (c : Nat) (xs : List (Int)) (A2 : Option Addr) (n2 : Nat) (c2 : Nat) (ys : List (Int)) (hA : At w A (cells fI xs)) (eA : xs.length = n) (lA : n ≤ c) (hA2 : At w A2 (cells fI ys)) (eA2 : ys.length = n2) (lA2 : n2 ≤ c2) (hs : xs.length ≤ 1048576 ∧ ys.length ≤ 1048576) : Calls Try.prog 71 #[.slice A (n) (c), .slice A2 (n2) (c2)] w (Ret fun rv w' => rv = .bool (decide (ValidM xs ys)) ∧ New w w' []) := by
  have oA := hA.atB
  subst eA
  have oA2 := hA2.atB
  subst eA2
  refine fn_enter (args := [.slice A (xs.length) (c), .slice A2 (ys.length) (c2)]) Try.func71 rfl Try.ntmps71 rfl (SS.start w) ?_
  refine cw_seq ?_
  refine cw_region ?_
  refine wl_v (ov_assign rfl) rfl rfl rfl ?_
  refine wl_nil ?_
  refine ce_then ?_
  refine cw_seq ?_
  refine cw_region ?_
  refine wl_v (ov_move rfl) rfl rfl rfl ?_
  refine wl_v (ov_len (sliceI_spec sI26) rfl) rfl rfl rfl ?_
  refine wl_r (or_call (fv := []) (vs := [.int .i64 (((xs.length : Nat) : Int)), .int .i64 (1), .int .i64 (5)]) (cs := []) en92 rfl rfl (call_v (fun w hw => in_c w ((xs.length : Nat) : Int) 1 5 ))) rfl rfl (kt_if rfl (fun c7 => ?_) (fun c7 => ?_))
  ·
    refine wl_v (ov_move rfl) rfl rfl rfl ?_
    refine wl_go rfl rfl ?_
    refine wl_v (ov_move rfl) rfl rfl rfl ?_
    refine wl_go rfl rfl ?_
    refine wl_v (ov_len (sliceI_spec sI26) rfl) rfl rfl rfl ?_
    refine wl_go rfl rfl ?_
    refine wl_r (or_call (fv := []) (vs := [.int .i64 (((ys.length : Nat) : Int)), .int .i64 (1), .int .i64 (5)]) (cs := []) en92 rfl rfl (call_v (fun w hw => in_c w ((ys.length : Nat) : Int) 1 5 ))) rfl rfl (kt_if rfl (fun c11 => ?_) (fun c11 => ?_))
    ·
      refine wl_v (ov_pick_t rfl rfl) rfl rfl rfl ?_
      refine wl_v (ov_move rfl) rfl rfl rfl ?_
      refine wl_go rfl rfl ?_
      refine wl_v (ov_move rfl) rfl rfl rfl ?_
      refine wl_go rfl rfl ?_
      refine wl_v (ov_move rfl) rfl rfl rfl ?_
      refine wl_go rfl rfl ?_
      refine wl_v (ov_len (sliceI_spec sI26) rfl) rfl rfl rfl ?_
      refine wl_go rfl rfl ?_
      refine wl_r (or_call (fv := []) (vs := [.slice A (xs.length) (c), .int .i64 (0), .int .i64 (((ys.length : Nat) : Int))]) (cs := []) en48 rfl rfl (call_v (fun w hw => allIn_c w A xs.length c xs 0 ((ys.length : Nat) : Int) ((holds_old oA) w hw) rfl lA (by first | assumption | omega | (simp; omega))))) rfl rfl (kt_if rfl (fun c17 => ?_) (fun c17 => ?_))
      ·
        refine wl_v (ov_pick_t rfl rfl) rfl rfl rfl ?_
        refine wl_v (ov_move rfl) rfl rfl rfl ?_
        refine wl_go rfl rfl ?_
        refine wl_v (ov_move rfl) rfl rfl rfl ?_
        refine wl_go rfl rfl ?_
        refine wl_v (ov_move rfl) rfl rfl rfl ?_
        refine wl_go rfl rfl ?_
        refine wl_v (ov_len (sliceI_spec sI26) rfl) rfl rfl rfl ?_
        refine wl_go rfl rfl ?_
        refine wl_r (or_call (fv := []) (vs := [.slice A2 (ys.length) (c2), .int .i64 (0), .int .i64 (((xs.length : Nat) : Int))]) (cs := []) en48 rfl rfl (call_v (fun w hw => allIn_c w A2 ys.length c2 ys 0 ((xs.length : Nat) : Int) ((holds_old oA2) w hw) rfl lA2 (by first | assumption | omega | (simp; omega))))) rfl rfl (kt_if rfl (fun c23 => ?_) (fun c23 => ?_))
        ·
          refine wl_v (ov_pick_t rfl rfl) rfl rfl rfl ?_
          refine wl_v (ov_assign rfl) rfl rfl rfl ?_
          refine wl_nil ?_
          refine ce_then ?_
          refine cw_ret ?_
          refine ce_results (v := .bool true) (res1 rfl (rv_t rfl)) (fun w' hw => ?_)
          exact ⟨(bt ⟨by omega, by omega, c17, c23⟩), (Keep.nil.ss hw).to_new⟩
        ·
          refine wl_v (ov_pick_t rfl rfl) rfl rfl rfl ?_
          refine wl_v (ov_assign rfl) rfl rfl rfl ?_
          refine wl_nil ?_
          refine ce_then ?_
          refine cw_ret ?_
          refine ce_results (v := .bool false) (res1 rfl (rv_t rfl)) (fun w' hw => ?_)
          exact ⟨(bf (fun h => c23 h.2.2.2)), (Keep.nil.ss hw).to_new⟩
      ·
        refine wl_v (ov_pick_t rfl rfl) rfl rfl rfl ?_
        refine wl_v (ov_move rfl) rfl rfl rfl ?_
        refine wl_not rfl rfl rfl rfl rfl rfl ?_
        refine wl_not rfl rfl rfl rfl rfl rfl ?_
        refine wl_not rfl rfl rfl rfl rfl rfl ?_
        refine wl_not rfl rfl rfl rfl rfl rfl ?_
        refine wl_v (ov_pick_f rfl rfl) rfl rfl rfl ?_
        refine wl_v (ov_assign rfl) rfl rfl rfl ?_
        refine wl_nil ?_
        refine ce_then ?_
        refine cw_ret ?_
        refine ce_results (v := .bool false) (res1 rfl (rv_t rfl)) (fun w' hw => ?_)
        exact ⟨(bf (fun h => c17 h.2.2.1)), (Keep.nil.ss hw).to_new⟩
    ·
      refine wl_v (ov_pick_t rfl rfl) rfl rfl rfl ?_
      refine wl_v (ov_move rfl) rfl rfl rfl ?_
      refine wl_not rfl rfl rfl rfl rfl rfl ?_
      refine wl_not rfl rfl rfl rfl rfl rfl ?_
      refine wl_not rfl rfl rfl rfl rfl rfl ?_
      refine wl_not rfl rfl rfl rfl rfl rfl ?_
      refine wl_v (ov_pick_f rfl rfl) rfl rfl rfl ?_
      refine wl_v (ov_move rfl) rfl rfl rfl ?_
      refine wl_not rfl rfl rfl rfl rfl rfl ?_
      refine wl_not rfl rfl rfl rfl rfl rfl ?_
      refine wl_not rfl rfl rfl rfl rfl rfl ?_
      refine wl_not rfl rfl rfl rfl rfl rfl ?_
      refine wl_v (ov_pick_f rfl rfl) rfl rfl rfl ?_
      refine wl_v (ov_assign rfl) rfl rfl rfl ?_
      refine wl_nil ?_
      refine ce_then ?_
      refine cw_ret ?_
      refine ce_results (v := .bool false) (res1 rfl (rv_t rfl)) (fun w' hw => ?_)
      exact ⟨(bf (fun h => c11 (by have := h.2.1; omega))), (Keep.nil.ss hw).to_new⟩
  ·
    refine wl_v (ov_move rfl) rfl rfl rfl ?_
    refine wl_not rfl rfl rfl rfl rfl rfl ?_
    refine wl_not rfl rfl rfl rfl rfl rfl ?_
    refine wl_not rfl rfl rfl rfl rfl rfl ?_
    refine wl_v (ov_pick_f rfl rfl) rfl rfl rfl ?_
    refine wl_v (ov_move rfl) rfl rfl rfl ?_
    refine wl_not rfl rfl rfl rfl rfl rfl ?_
    refine wl_not rfl rfl rfl rfl rfl rfl ?_
    refine wl_not rfl rfl rfl rfl rfl rfl ?_
    refine wl_not rfl rfl rfl rfl rfl rfl ?_
    refine wl_v (ov_pick_f rfl rfl) rfl rfl rfl ?_
    refine wl_v (ov_move rfl) rfl rfl rfl ?_
    refine wl_not rfl rfl rfl rfl rfl rfl ?_
    refine wl_not rfl rfl rfl rfl rfl rfl ?_
    refine wl_not rfl rfl rfl rfl rfl rfl ?_
    refine wl_not rfl rfl rfl rfl rfl rfl ?_
    refine wl_v (ov_pick_f rfl rfl) rfl rfl rfl ?_
    refine wl_v (ov_assign rfl) rfl rfl rfl ?_
    refine wl_nil ?_
    refine ce_then ?_
    refine cw_ret ?_
    refine ce_results (v := .bool false) (res1 rfl (rv_t rfl)) (fun w' hw => ?_)
    exact ⟨(bf (fun h => c7 (by have := h.1; omega))), (Keep.nil.ss hw).to_new⟩
end Go.Proofs.Ytebbejphopplbaa.W10
