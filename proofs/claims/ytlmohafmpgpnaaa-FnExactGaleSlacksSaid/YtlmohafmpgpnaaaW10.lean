/- Walks of functions of the given program: each returns what its Lean function says and leaves the memory that was there as it was. Conditions: those of each theorem. -/
import Derived.Test.YtlmohafmpgpnaaaSy
import Derived.Test.YtlmohafmpgpnaaaProg
import Derived.Test.YtlmohafmpgpnaaaPl
import Derived.Test.YtlmohafmpgpnaaaPo
import Derived.Test.YtlmohafmpgpnaaaPd
import Derived.Test.YtlmohafmpgpnaaaPe
import Derived.Test.YtlmohafmpgpnaaaSo
import Derived.Test.YtlmohafmpgpnaaaSh
import Derived.Test.YtlmohafmpgpnaaaT
import Derived.Test.YtlmohafmpgpnaaaW1
import Derived.Test.YtlmohafmpgpnaaaW2
import Derived.Test.YtlmohafmpgpnaaaW3
import Derived.Test.YtlmohafmpgpnaaaW5
import Derived.Test.YtlmohafmpgpnaaaW6
import Derived.Test.YtlmohafmpgpnaaaW7
import Derived.Test.YtlmohafmpgpnaaaW8
import Derived.Test.YtlmohafmpgpnaaaW9
import Derived.KernelRfl
namespace Go.Proofs.Ytlmohafmpgpnaaa.W10
open Go.Sx Go.RowKit Go.Proofs.Ytlmohafmpgpnaaa.T Go.Proofs.Ytlmohafmpgpnaaa.W1 Go.Proofs.Ytlmohafmpgpnaaa.W2 Go.Proofs.Ytlmohafmpgpnaaa.W3 Go.Proofs.Ytlmohafmpgpnaaa.W5 Go.Proofs.Ytlmohafmpgpnaaa.W6 Go.Proofs.Ytlmohafmpgpnaaa.W7 Go.Proofs.Ytlmohafmpgpnaaa.W8 Go.Proofs.Ytlmohafmpgpnaaa.W9
open Go.Plain
set_option linter.unusedVariables false
set_option maxRecDepth 100000 in
theorem majorizes_c (w : World) (A : Option Addr) (n : Nat) (c : Nat) (xs : List (Int)) (A2 : Option Addr) (n2 : Nat) (c2 : Nat) (ys : List (Int)) (hA : At w A (cells fI xs)) (eA : xs.length = n) (lA : n ≤ c) (hA2 : At w A2 (cells fI ys)) (eA2 : ys.length = n2) (lA2 : n2 ≤ c2) (h1 : Valid xs) (h2 : Valid ys) (he : xs.length = ys.length) : Calls Try.prog 29 #[.slice A (n) (c), .slice A2 (n2) (c2)] w (Ret fun rv w' => rv = .bool (decide ((∀ k, k < xs.length → total ((fall ys).take (k + 1)) ≤ total ((fall xs).take (k + 1))) ∧ total xs = total ys)) ∧ New w w' []) := by
  have oA := hA.atB
  subst eA
  have oA2 := hA2.atB
  subst eA2
  have hl1 := h1.1
  have hl2 := h2.1
  have hf1 := fall_length xs
  have hf2 := fall_length ys
  have hs1 := h1.fall.small
  have hs2 := h2.fall.small
  refine fn_enter (args := [.slice A (xs.length) (c), .slice A2 (ys.length) (c2)]) Try.func29 rfl Try.ntmps29 rfl (SS.start w) ?_
  refine cw_seq ?_
  refine cw_region ?_
  refine wl_v (ov_assign rfl) rfl rfl rfl ?_
  refine wl_nil ?_
  refine ce_then ?_
  refine cw_seq ?_
  refine cw_region ?_
  refine wl_v (ov_move rfl) rfl rfl rfl ?_
  refine wl_r (or_call (fv := []) (vs := [.slice A (xs.length) (c)]) (cs := []) en42 rfl rfl (call_x2 (fun w hw => fallingS_c w A xs.length c xs ((holds_old oA) w hw) rfl lA (by first | assumption | omega | (simp; omega))))) rfl rfl (kt2p rfl (fun A2_10 c2_10 h_10 => ?_))
  refine wl_v (ov_assign rfl) rfl rfl rfl ?_
  refine wl_nil ?_
  refine ce_then ?_
  refine cw_seq ?_
  refine cw_region ?_
  refine wl_v (ov_move rfl) rfl rfl rfl ?_
  refine wl_r (or_call (fv := []) (vs := [.slice A2 (ys.length) (c2)]) (cs := []) en42 rfl rfl (call_x2 (fun w hw => fallingS_c w A2 ys.length c2 ys ((holds_old oA2) w hw) rfl lA2 (by first | assumption | omega | (simp; omega))))) rfl rfl (kt2p rfl (fun A2_12 c2_12 h_12 => ?_))
  refine wl_v (ov_assign rfl) rfl rfl rfl ?_
  refine wl_nil ?_
  refine ce_then ?_
  refine cw_seq ?_
  refine cw_region ?_
  refine wl_v (ov_assign rfl) rfl rfl rfl ?_
  refine wl_nil ?_
  refine ce_then ?_
  refine cw_seq ?_
  refine cw_seq ?_
  refine cw_region ?_
  refine wl_v (ov_assign rfl) rfl rfl rfl ?_
  refine wl_nil ?_
  refine ce_then ?_
  refine cw_block ?_
  refine cw_loop1 (fun (k : Nat) => [(5, .slice A2_10 (xs.length) (c2_10)), (6, .slice A2_12 (ys.length) (c2_12)), (7, .int .i64 (total ((fall xs).take k) - total ((fall ys).take k))), (8, .int .i64 (((k : Nat) : Int)))]) (fun (k : Nat) => [row 3 1 A2_12 (ys.length) (c2_12) (cells fI (fall ys)), row 3 1 A2_10 (xs.length) (c2_10) (cells fI (fall xs))]) (fun (k : Nat) => k ≤ xs.length ∧ ∀ q, q < k → total ((fall ys).take (q + 1)) ≤ total ((fall xs).take (q + 1))) (fun (k : Nat) => xs.length - k) 0 ⟨by omega, fun q hq => absurd hq (Nat.not_lt_zero _)⟩ (.cons rfl (.cons rfl (.cons (congrArg (fun z => some (Value.int .i64 z)) (show 0 = (total ((fall xs).take 0) - total ((fall ys).take 0)) from (by simp [total]))) (.cons (congrArg (fun z => some (Value.int .i64 z)) (show 0 = ((0 : Nat) : Int) by first | omega | rfl | (simp; done))) (.nil))))) (.cons (.head) (.cons (.head) (.nil))) ?_
  intro R0 k hk hR0
  obtain ⟨hk1, hk2⟩ := hk
  have hb1 := total_bd hs1 k (by omega)
  have hb2 := total_bd hs2 k (by omega)
  refine cw_seq ?_
  refine cw_seq ?_
  refine cw_region ?_
  refine wl_v (ov_move rfl) rfl rfl rfl ?_
  refine wl_v (ov_move rfl) rfl rfl rfl ?_
  refine wl_v (ov_len (sliceI_spec sI22) rfl) rfl rfl rfl ?_
  refine wl_if (ov_lss rfl rfl) rfl rfl rfl (fun c16 => ?_) (fun c16 => ?_)
  ·
    refine wl_nil ?_
    refine ce_then ?_
    refine cw_true rfl ?_
    refine cw_skip ?_
    refine ce_then ?_
    refine cw_seq ?_
    refine cw_block ?_
    refine cw_seq ?_
    refine cw_draw mixO [] (.cons (.head) (.cons (.head) (.nil))) rfl ?_
    refine wg_takep (i := 0) rfl (ov_move rfl) rfl rfl rfl (by kernel_rfl) (by kernel_rfl) (by kernel_rfl) rfl ?_
    refine wg_takep (i := 1) rfl (ov_move rfl) rfl rfl rfl (by kernel_rfl) (by kernel_rfl) (by kernel_rfl) rfl ?_
    refine wg_takep (i := 2) rfl (ov_move rfl) rfl rfl rfl (by kernel_rfl) (by kernel_rfl) (by kernel_rfl) rfl ?_
    refine wg_take (i := 3) rfl (ov_index (k := k) (c := c2_10) sI22 tI3 rfl rfl (some_holds (q := k * 1) (holds_row (List.Mem.tail _ (List.Mem.head _))) (by rw [cells_length fI_len]; have hlt : k < (fall xs).length := (by omega); omega)) (show k < xs.length from (by omega))) rfl rfl rfl (by kernel_rfl) (by kernel_rfl) (by kernel_rfl) (by kernel_rfl) ?_
    refine wg_take (i := 4) rfl (ov_load tI3 (holds_row (List.Mem.tail _ (List.Mem.head _))) rfl (get_fI (show k < (fall xs).length from (by omega)))) rfl rfl rfl (by kernel_rfl) (by kernel_rfl) (by kernel_rfl) (by kernel_rfl) ?_
    have hx := hs1.at_ (k := k) (by omega)
    have ht1 : total ((fall xs).take (k + 1)) = total ((fall xs).take k) + (fall xs).getD k 0 := total_take (by omega)
    have ht2 : total ((fall ys).take (k + 1)) = total ((fall ys).take k) + (fall ys).getD k 0 := total_take (by omega)
    refine wg_takep (i := 5) rfl (ov_add (r := (total ((fall xs).take k) - total ((fall ys).take k)) + ((fall xs).getD k 0)) rfl rfl rfl (by omega)) rfl rfl rfl (by kernel_rfl) (by kernel_rfl) (by kernel_rfl) rfl ?_
    refine wg_takep (i := 6) rfl (ov_move rfl) rfl rfl rfl (by kernel_rfl) (by kernel_rfl) (by kernel_rfl) rfl ?_
    refine wg_takep (i := 7) rfl (ov_move rfl) rfl rfl rfl (by kernel_rfl) (by kernel_rfl) (by kernel_rfl) rfl ?_
    refine wg_take (i := 8) rfl (ov_index (k := k) (c := c2_12) sI22 tI3 rfl rfl (some_holds (q := k * 1) (holds_row (List.Mem.head _)) (by rw [cells_length fI_len]; have hlt : k < (fall ys).length := (by omega); omega)) (show k < ys.length from (by omega))) rfl rfl rfl (by kernel_rfl) (by kernel_rfl) (by kernel_rfl) (by kernel_rfl) ?_
    refine wg_take (i := 9) rfl (ov_load tI3 (holds_row (List.Mem.head _)) rfl (get_fI (show k < (fall ys).length from (by omega)))) rfl rfl rfl (by kernel_rfl) (by kernel_rfl) (by kernel_rfl) (by kernel_rfl) ?_
    have hy := hs2.at_ (k := k) (by omega)
    refine wg_takep (i := 10) rfl (ov_sub (r := ((total ((fall xs).take k) - total ((fall ys).take k)) + ((fall xs).getD k 0)) - ((fall ys).getD k 0)) rfl rfl rfl (by omega)) rfl rfl rfl (by kernel_rfl) (by kernel_rfl) (by kernel_rfl) rfl ?_
    refine wg_takep (i := 11) rfl (ov_assign rfl) rfl rfl rfl (by kernel_rfl) (by kernel_rfl) (by kernel_rfl) rfl ?_
    refine wg_done (by kernel_rfl) ?_
    refine ce_then ?_
    refine cw_seq ?_
    refine cw_region ?_
    refine wl_v (ov_move rfl) rfl rfl rfl ?_
    refine wl_if (ov_lss rfl rfl) rfl rfl rfl (fun c31 => ?_) (fun c31 => ?_)
    ·
      refine wl_nil ?_
      refine ce_then ?_
      refine cw_true rfl ?_
      refine cw_seq ?_
      refine cw_region ?_
      refine wl_v (ov_assign rfl) rfl rfl rfl ?_
      refine wl_nil ?_
      refine ce_then ?_
      refine cw_ret ?_
      refine ce_block_ret ?_
      refine ce_then_ret ?_
      refine ce_then_ret ?_
      refine ce_block_ret ?_
      refine ce_then_ret ?_
      refine ce_results (v := .bool false) (res1 rfl (rv_t rfl)) (fun w' hw => ?_)
      exact ⟨(bf (fun h => by have := h.1 k (by omega); omega)), (Keep.nil.ss hw).to_new⟩
    ·
      refine wl_nil ?_
      refine ce_then ?_
      refine cw_false rfl ?_
      refine cw_skip ?_
      refine ce_block ?_
      refine ce_then ?_
      refine cw_region ?_
      refine wl_v (ov_move rfl) rfl rfl rfl ?_
      refine wl_v (ov_add (r := ((k + 1 : Nat) : Int)) rfl rfl rfl (by omega)) rfl rfl rfl ?_
      refine wl_v (ov_assign rfl) rfl rfl rfl ?_
      refine wl_nil ?_
      exact fun a w hs => hR0 (k + 1) ⟨by omega, fun q hq => by rcases Nat.lt_succ_iff_lt_or_eq.1 hq with h | rfl; exact hk2 q h; omega⟩ (by omega) a w (hs.weaken (.cons rfl (.cons rfl (.cons (congrArg (fun z => some (Value.int .i64 z)) (show (((total ((fall xs).take k) - total ((fall ys).take k)) + ((fall xs).getD k 0)) - ((fall ys).getD k 0)) = (total ((fall xs).take (k + 1)) - total ((fall ys).take (k + 1))) by first | omega | rfl | (simp; done))) (.cons rfl (.nil))))) (.cons (.head) (.cons (.head) (.nil))))
  ·
    refine wl_nil ?_
    refine ce_then ?_
    refine cw_false rfl ?_
    refine cw_exit ?_
    refine ce_then_exit ?_
    refine ce_then_exit ?_
    refine ce_hit ?_
    refine ce_then ?_
    refine cw_seq ?_
    refine cw_region ?_
    refine wl_v (ov_move rfl) rfl rfl rfl ?_
    refine wl_if (ov_eql rfl rfl) rfl rfl rfl (fun c33 => ?_) (fun c33 => ?_)
    ·
      refine wl_v (ov_assign rfl) rfl rfl rfl ?_
      refine wl_nil ?_
      refine ce_then ?_
      refine cw_ret ?_
      refine ce_results (v := .bool true) (res1 rfl (rv_t rfl)) (fun w' hw => ?_)
      exact ⟨(bt ⟨fun q hq => hk2 q (by omega), by have e1 := total_fall xs; have e2 := total_fall ys; rw [List.take_of_length_le (by omega), List.take_of_length_le (by omega)] at c33; omega⟩), (Keep.nil.ss hw).to_new⟩
    ·
      refine wl_v (ov_assign rfl) rfl rfl rfl ?_
      refine wl_nil ?_
      refine ce_then ?_
      refine cw_ret ?_
      refine ce_results (v := .bool false) (res1 rfl (rv_t rfl)) (fun w' hw => ?_)
      exact ⟨(bf (fun h => c33 (by have e1 := total_fall xs; have e2 := total_fall ys; rw [List.take_of_length_le (by omega), List.take_of_length_le (by omega)]; omega))), (Keep.nil.ss hw).to_new⟩
set_option maxRecDepth 100000 in
theorem MajorizesS_c (w : World) (A : Option Addr) (n : Nat) (c : Nat) (xs : List (Int)) (A2 : Option Addr) (n2 : Nat) (c2 : Nat) (ys : List (Int)) (hA : At w A (cells fI xs)) (eA : xs.length = n) (lA : n ≤ c) (hA2 : At w A2 (cells fI ys)) (eA2 : ys.length = n2) (lA2 : n2 ≤ c2) (hs : xs.length ≤ 1048576 ∧ ys.length ≤ 1048576) : Calls Try.prog 10 #[.slice A (n) (c), .slice A2 (n2) (c2)] w (Ret fun rv w' => rv = .bool (decide (MajP xs ys)) ∧ New w w' []) := by
  have oA := hA.atB
  subst eA
  have oA2 := hA2.atB
  subst eA2
  refine fn_enter (args := [.slice A (xs.length) (c), .slice A2 (ys.length) (c2)]) Try.func10 rfl Try.ntmps10 rfl (SS.start w) ?_
  refine cw_seq ?_
  refine cw_region ?_
  refine wl_v (ov_assign rfl) rfl rfl rfl ?_
  refine wl_nil ?_
  refine ce_then ?_
  refine cw_seq ?_
  refine cw_region ?_
  refine wl_v (ov_move rfl) rfl rfl rfl ?_
  refine wl_r (or_call (fv := []) (vs := [.slice A (xs.length) (c)]) (cs := []) en28 rfl rfl (call_v (fun w hw => validS_c w A xs.length c xs ((holds_old oA) w hw) rfl lA (by first | assumption | omega | (simp; omega))))) rfl rfl (kt_if rfl (fun c6 => ?_) (fun c6 => ?_))
  ·
    refine wl_v (ov_move rfl) rfl rfl rfl ?_
    refine wl_go rfl rfl ?_
    refine wl_v (ov_move rfl) rfl rfl rfl ?_
    refine wl_go rfl rfl ?_
    refine wl_r (or_call (fv := []) (vs := [.slice A2 (ys.length) (c2)]) (cs := []) en28 rfl rfl (call_v (fun w hw => validS_c w A2 ys.length c2 ys ((holds_old oA2) w hw) rfl lA2 (by first | assumption | omega | (simp; omega))))) rfl rfl (kt_if rfl (fun c9 => ?_) (fun c9 => ?_))
    ·
      refine wl_v (ov_pick_t rfl rfl) rfl rfl rfl ?_
      refine wl_v (ov_move rfl) rfl rfl rfl ?_
      refine wl_go rfl rfl ?_
      refine wl_v (ov_move rfl) rfl rfl rfl ?_
      refine wl_go rfl rfl ?_
      refine wl_v (ov_len (sliceI_spec sI22) rfl) rfl rfl rfl ?_
      refine wl_go rfl rfl ?_
      refine wl_v (ov_move rfl) rfl rfl rfl ?_
      refine wl_go rfl rfl ?_
      refine wl_v (ov_len (sliceI_spec sI22) rfl) rfl rfl rfl ?_
      refine wl_go rfl rfl ?_
      refine wl_if (ov_eql rfl rfl) rfl rfl rfl (fun c16 => ?_) (fun c16 => ?_)
      ·
        refine wl_v (ov_pick_t rfl rfl) rfl rfl rfl ?_
        refine wl_v (ov_move rfl) rfl rfl rfl ?_
        refine wl_go rfl rfl ?_
        refine wl_v (ov_move rfl) rfl rfl rfl ?_
        refine wl_go rfl rfl ?_
        refine wl_v (ov_move rfl) rfl rfl rfl ?_
        refine wl_go rfl rfl ?_
        refine wl_r (or_call (fv := []) (vs := [.slice A (xs.length) (c), .slice A2 (ys.length) (c2)]) (cs := []) en29 rfl rfl (call_v (fun w hw => majorizes_c w A xs.length c xs A2 ys.length c2 ys ((holds_old oA) w hw) rfl lA ((holds_old oA2) w hw) rfl lA2 (by first | assumption | omega | (simp; omega)) (by first | assumption | omega | (simp; omega)) (by first | assumption | omega | (simp; omega))))) rfl rfl (kt_if rfl (fun c21 => ?_) (fun c21 => ?_))
        ·
          refine wl_v (ov_pick_t rfl rfl) rfl rfl rfl ?_
          refine wl_v (ov_assign rfl) rfl rfl rfl ?_
          refine wl_nil ?_
          refine ce_then ?_
          refine cw_ret ?_
          refine ce_results (v := .bool true) (res1 rfl (rv_t rfl)) (fun w' hw => ?_)
          exact ⟨(bt ⟨c6, c9, by omega, c21.1, c21.2⟩), (Keep.nil.ss hw).to_new⟩
        ·
          refine wl_v (ov_pick_t rfl rfl) rfl rfl rfl ?_
          refine wl_v (ov_assign rfl) rfl rfl rfl ?_
          refine wl_nil ?_
          refine ce_then ?_
          refine cw_ret ?_
          refine ce_results (v := .bool false) (res1 rfl (rv_t rfl)) (fun w' hw => ?_)
          exact ⟨(bf (fun h => c21 ⟨h.2.2.2.1, h.2.2.2.2⟩)), (Keep.nil.ss hw).to_new⟩
      ·
        refine wl_v (ov_pick_t rfl rfl) rfl rfl rfl ?_
        refine wl_v (ov_move rfl) rfl rfl rfl ?_
        refine wl_not rfl rfl rfl rfl rfl rfl ?_
        refine wl_not rfl rfl rfl rfl rfl rfl ?_
        refine wl_not rfl rfl rfl rfl rfl rfl ?_
        refine wl_v (ov_pick_f rfl rfl) rfl rfl rfl ?_
        refine wl_v (ov_assign rfl) rfl rfl rfl ?_
        refine wl_nil ?_
        refine ce_then ?_
        refine cw_ret ?_
        refine ce_results (v := .bool false) (res1 rfl (rv_t rfl)) (fun w' hw => ?_)
        exact ⟨(bf (fun h => by have := h.2.2.1; omega)), (Keep.nil.ss hw).to_new⟩
    ·
      refine wl_v (ov_pick_t rfl rfl) rfl rfl rfl ?_
      refine wl_v (ov_move rfl) rfl rfl rfl ?_
      refine wl_not rfl rfl rfl rfl rfl rfl ?_
      refine wl_not rfl rfl rfl rfl rfl rfl ?_
      refine wl_not rfl rfl rfl rfl rfl rfl ?_
      refine wl_not rfl rfl rfl rfl rfl rfl ?_
      refine wl_not rfl rfl rfl rfl rfl rfl ?_
      refine wl_v (ov_pick_f rfl rfl) rfl rfl rfl ?_
      refine wl_v (ov_move rfl) rfl rfl rfl ?_
      refine wl_not rfl rfl rfl rfl rfl rfl ?_
      refine wl_not rfl rfl rfl rfl rfl rfl ?_
      refine wl_not rfl rfl rfl rfl rfl rfl ?_
      refine wl_v (ov_pick_f rfl rfl) rfl rfl rfl ?_
      refine wl_v (ov_assign rfl) rfl rfl rfl ?_
      refine wl_nil ?_
      refine ce_then ?_
      refine cw_ret ?_
      refine ce_results (v := .bool false) (res1 rfl (rv_t rfl)) (fun w' hw => ?_)
      exact ⟨(bf (fun h => c9 h.2.1)), (Keep.nil.ss hw).to_new⟩
  ·
    refine wl_v (ov_move rfl) rfl rfl rfl ?_
    refine wl_not rfl rfl rfl rfl rfl rfl ?_
    refine wl_not rfl rfl rfl rfl rfl rfl ?_
    refine wl_v (ov_pick_f rfl rfl) rfl rfl rfl ?_
    refine wl_v (ov_move rfl) rfl rfl rfl ?_
    refine wl_not rfl rfl rfl rfl rfl rfl ?_
    refine wl_not rfl rfl rfl rfl rfl rfl ?_
    refine wl_not rfl rfl rfl rfl rfl rfl ?_
    refine wl_not rfl rfl rfl rfl rfl rfl ?_
    refine wl_not rfl rfl rfl rfl rfl rfl ?_
    refine wl_v (ov_pick_f rfl rfl) rfl rfl rfl ?_
    refine wl_v (ov_move rfl) rfl rfl rfl ?_
    refine wl_not rfl rfl rfl rfl rfl rfl ?_
    refine wl_not rfl rfl rfl rfl rfl rfl ?_
    refine wl_not rfl rfl rfl rfl rfl rfl ?_
    refine wl_v (ov_pick_f rfl rfl) rfl rfl rfl ?_
    refine wl_v (ov_assign rfl) rfl rfl rfl ?_
    refine wl_nil ?_
    refine ce_then ?_
    refine cw_ret ?_
    refine ce_results (v := .bool false) (res1 rfl (rv_t rfl)) (fun w' hw => ?_)
    exact ⟨(bf (fun h => c6 h.1)), (Keep.nil.ss hw).to_new⟩
set_option maxRecDepth 100000 in
theorem MajorizesI_c (w : World) (A : Option Addr) (n : Nat) (c : Nat) (xs : List (Int)) (A2 : Option Addr) (n2 : Nat) (c2 : Nat) (ys : List (Int)) (hA : At w A (cells fI xs)) (eA : xs.length = n) (lA : n ≤ c) (hA2 : At w A2 (cells fI ys)) (eA2 : ys.length = n2) (lA2 : n2 ≤ c2) (hs : xs.length ≤ 1048576 ∧ ys.length ≤ 1048576) : Calls Try.prog 12 #[.slice A (n) (c), .slice A2 (n2) (c2)] w (Ret fun rv w' => rv = .bool (decide (MajP xs ys)) ∧ New w w' []) := by
  have oA := hA.atB
  subst eA
  have oA2 := hA2.atB
  subst eA2
  refine fn_enter (args := [.slice A (xs.length) (c), .slice A2 (ys.length) (c2)]) Try.func12 rfl Try.ntmps12 rfl (SS.start w) ?_
  refine cw_seq ?_
  refine cw_region ?_
  refine wl_v (ov_assign rfl) rfl rfl rfl ?_
  refine wl_nil ?_
  refine ce_then ?_
  refine cw_seq ?_
  refine cw_seq ?_
  refine cw_region ?_
  refine wl_v (ov_move rfl) rfl rfl rfl ?_
  refine wl_r (or_call (fv := []) (vs := [.slice A (xs.length) (c)]) (cs := []) en30 rfl rfl (call_v (fun w hw => validI_c w A xs.length c xs ((holds_old oA) w hw) rfl lA (by first | assumption | omega | (simp; omega))))) rfl rfl (kt_if rfl (fun c9 => ?_) (fun c9 => ?_))
  ·
    refine wl_v (ov_not rfl) rfl rfl rfl ?_
    refine wl_v (ov_move rfl) rfl rfl rfl ?_
    refine wl_go rfl rfl ?_
    refine wl_v (ov_move rfl) rfl rfl rfl ?_
    refine wl_go rfl rfl ?_
    refine wl_r (or_call (fv := []) (vs := [.slice A2 (ys.length) (c2)]) (cs := []) en30 rfl rfl (call_v (fun w hw => validI_c w A2 ys.length c2 ys ((holds_old oA2) w hw) rfl lA2 (by first | assumption | omega | (simp; omega))))) rfl rfl (kt_if rfl (fun c13 => ?_) (fun c13 => ?_))
    ·
      refine wl_go rfl rfl ?_
      refine wl_v (ov_not rfl) rfl rfl rfl ?_
      refine wl_v (ov_pick_f rfl rfl) rfl rfl rfl ?_
      refine wl_v (ov_move rfl) rfl rfl rfl ?_
      refine wl_go rfl rfl ?_
      refine wl_v (ov_move rfl) rfl rfl rfl ?_
      refine wl_go rfl rfl ?_
      refine wl_v (ov_len (sliceI_spec sI22) rfl) rfl rfl rfl ?_
      refine wl_go rfl rfl ?_
      refine wl_v (ov_move rfl) rfl rfl rfl ?_
      refine wl_go rfl rfl ?_
      refine wl_v (ov_len (sliceI_spec sI22) rfl) rfl rfl rfl ?_
      refine wl_go rfl rfl ?_
      refine wl_if (ov_neq rfl rfl) rfl rfl rfl (fun c21 => ?_) (fun c21 => ?_)
      ·
        refine wl_v (ov_pick_f rfl rfl) rfl rfl rfl ?_
        refine wl_v (ov_move rfl) rfl rfl rfl ?_
        refine wl_not rfl rfl rfl rfl rfl rfl ?_
        refine wl_not rfl rfl rfl rfl rfl rfl ?_
        refine wl_not rfl rfl rfl rfl rfl rfl ?_
        refine wl_not rfl rfl rfl rfl rfl rfl ?_
        refine wl_not rfl rfl rfl rfl rfl rfl ?_
        refine wl_v (ov_pick_t rfl rfl) rfl rfl rfl ?_
        refine wl_nil ?_
        refine ce_then ?_
        refine cw_true rfl ?_
        refine cw_seq ?_
        refine cw_region ?_
        refine wl_v (ov_assign rfl) rfl rfl rfl ?_
        refine wl_nil ?_
        refine ce_then ?_
        refine cw_ret ?_
        refine ce_then_ret ?_
        refine ce_results (v := .bool false) (res1 rfl (rv_t rfl)) (fun w' hw => ?_)
        exact ⟨(bf (fun h => by have := h.2.2.1; omega)), (Keep.nil.ss hw).to_new⟩
      ·
        refine wl_v (ov_pick_f rfl rfl) rfl rfl rfl ?_
        refine wl_v (ov_move rfl) rfl rfl rfl ?_
        refine wl_go rfl rfl ?_
        refine wl_v (ov_move rfl) rfl rfl rfl ?_
        refine wl_go rfl rfl ?_
        refine wl_r (or_call (fv := []) (vs := [.slice A (xs.length) (c)]) (cs := []) en31 rfl rfl (call_v (fun w hw => sumI_c w A xs.length c xs ((holds_old oA) w hw) rfl lA c9.small))) rfl rfl (kt0 rfl ?_)
        refine wl_go rfl rfl ?_
        refine wl_v (ov_move rfl) rfl rfl rfl ?_
        refine wl_go rfl rfl ?_
        refine wl_r (or_call (fv := []) (vs := [.slice A2 (ys.length) (c2)]) (cs := []) en31 rfl rfl (call_v (fun w hw => sumI_c w A2 ys.length c2 ys ((holds_old oA2) w hw) rfl lA2 c13.small))) rfl rfl (kt0 rfl ?_)
        refine wl_go rfl rfl ?_
        refine wl_if (ov_neq rfl rfl) rfl rfl rfl (fun c28 => ?_) (fun c28 => ?_)
        ·
          refine wl_v (ov_pick_f rfl rfl) rfl rfl rfl ?_
          refine wl_nil ?_
          refine ce_then ?_
          refine cw_true rfl ?_
          refine cw_seq ?_
          refine cw_region ?_
          refine wl_v (ov_assign rfl) rfl rfl rfl ?_
          refine wl_nil ?_
          refine ce_then ?_
          refine cw_ret ?_
          refine ce_then_ret ?_
          refine ce_results (v := .bool false) (res1 rfl (rv_t rfl)) (fun w' hw => ?_)
          exact ⟨(bf (fun h => by have := h.2.2.2.2; omega)), (Keep.nil.ss hw).to_new⟩
        ·
          refine wl_v (ov_pick_f rfl rfl) rfl rfl rfl ?_
          refine wl_nil ?_
          refine ce_then ?_
          refine cw_false rfl ?_
          refine cw_skip ?_
          refine ce_then ?_
          refine cw_seq ?_
          refine cw_region ?_
          refine wl_v (ov_move rfl) rfl rfl rfl ?_
          refine wl_r (or_call (fv := []) (vs := [.slice A (xs.length) (c)]) (cs := []) en32 rfl rfl (call_x2 (fun w hw => fallingI_c w A xs.length c xs ((holds_old oA) w hw) rfl lA (by first | assumption | omega | (simp; omega))))) rfl rfl (kt2p rfl (fun A2_31 c2_31 h_31 => ?_))
          refine wl_v (ov_move rfl) rfl rfl rfl ?_
          refine wl_r (or_call (fv := []) (vs := [.slice A2 (ys.length) (c2)]) (cs := []) en32 rfl rfl (call_x2 (fun w hw => fallingI_c w A2 ys.length c2 ys ((holds_old oA2) w hw) rfl lA2 (by first | assumption | omega | (simp; omega))))) rfl rfl (kt2p rfl (fun A2_33 c2_33 h_33 => ?_))
          refine wl_v (ov_assign rfl) rfl rfl rfl ?_
          refine wl_v (ov_assign rfl) rfl rfl rfl ?_
          refine wl_nil ?_
          refine ce_then ?_
          refine cw_seq ?_
          refine cw_seq ?_
          refine cw_region ?_
          refine wl_v (ov_move rfl) rfl rfl rfl ?_
          refine wl_v (ov_len (sliceI_spec sI22) rfl) rfl rfl rfl ?_
          refine wl_v (ov_move rfl) rfl rfl rfl ?_
          refine wl_nil ?_
          refine ce_then ?_
          refine cw_block ?_
          refine cw_loop1 (fun (k : Nat) => [(5, .slice A2_31 (xs.length) (xs.length)), (6, .slice A2_33 (ys.length) (ys.length)), (35, .int .i64 (((xs.length : Nat) : Int))), (36, .int .i64 (((k : Nat) : Int)))]) (fun (k : Nat) => [row 3 1 A2_33 (ys.length) (c2_33) (cells fI (fall ys)), row 3 1 A2_31 (xs.length) (c2_31) (cells fI (fall xs))]) (fun (k : Nat) => k ≤ xs.length ∧ ∀ q, q < k → total ((fall ys).take q) ≤ total ((fall xs).take q)) (fun (k : Nat) => xs.length - k) 0 ⟨by omega, fun q hq => absurd hq (Nat.not_lt_zero _)⟩ (.cons rfl (.cons rfl (.cons rfl (.cons (congrArg (fun z => some (Value.int .i64 z)) (show 0 = ((0 : Nat) : Int) by first | omega | rfl | (simp; done))) (.nil))))) (.cons (.head) (.cons (.head) (.nil))) ?_
          intro R0 k hk hR0
          obtain ⟨hk1, hk2⟩ := hk
          refine cw_seq ?_
          refine cw_region ?_
          refine wl_if (ov_lss rfl rfl) rfl rfl rfl (fun c37 => ?_) (fun c37 => ?_)
          ·
            refine wl_nil ?_
            refine ce_then ?_
            refine cw_seq ?_
            refine cw_true rfl ?_
            refine cw_skip ?_
            refine ce_then ?_
            refine cw_seq ?_
            refine cw_block ?_
            refine cw_seq ?_
            refine cw_region ?_
            refine wl_v (ov_move rfl) rfl rfl rfl ?_
            refine wl_v (ov_assign rfl) rfl rfl rfl ?_
            refine wl_nil ?_
            refine ce_then ?_
            refine cw_seq ?_
            refine cw_draw mixO [] (.cons (.head) (.cons (.head) (.nil))) rfl ?_
            refine wg_takep (i := 0) rfl (ov_move rfl) rfl rfl rfl (by kernel_rfl) (by kernel_rfl) (by kernel_rfl) rfl ?_
            refine wg_takep (i := 1) rfl (ov_move rfl) rfl rfl rfl (by kernel_rfl) (by kernel_rfl) (by kernel_rfl) rfl ?_
            refine wg_takep (i := 2) rfl (ov_slice_h (h := k) sI22 tI3 rfl rfl (by omega)) rfl rfl rfl (by kernel_rfl) (by kernel_rfl) (by kernel_rfl) rfl ?_
            refine wg_takep (i := 4) rfl (ov_move rfl) rfl rfl rfl (by kernel_rfl) (by kernel_rfl) (by kernel_rfl) rfl ?_
            refine wg_takep (i := 5) rfl (ov_move rfl) rfl rfl rfl (by kernel_rfl) (by kernel_rfl) (by kernel_rfl) rfl ?_
            refine wg_takep (i := 6) rfl (ov_slice_h (h := k) sI22 tI3 rfl rfl (by omega)) rfl rfl rfl (by kernel_rfl) (by kernel_rfl) (by kernel_rfl) rfl ?_
            refine wg_one (i := 3) (by kernel_rfl) ?_
            refine go_r rfl rfl rfl rfl (or_call (fv := []) (vs := [.slice A2_31 (k) (xs.length)]) (cs := []) en31 rfl rfl (call_v (fun w hw => sumI_c w A2_31 k xs.length ((fall xs).take k) ((holds_takeC (k := k) fI_len (holds_row (List.Mem.tail _ (List.Mem.head _)))) w hw) (by rw [List.length_take, fall_length]; omega) (by omega) (c9.fall.small.take _)))) (kt0 rfl ?_)
            refine gk (.cons (.head) (.cons (.head) (.nil))) ?_
            refine wg_one (i := 7) (by kernel_rfl) ?_
            refine go_r rfl rfl rfl rfl (or_call (fv := []) (vs := [.slice A2_33 (k) (ys.length)]) (cs := []) en31 rfl rfl (call_v (fun w hw => sumI_c w A2_33 k ys.length ((fall ys).take k) ((holds_takeC (k := k) fI_len (holds_row (List.Mem.head _))) w hw) (by rw [List.length_take, fall_length]; omega) (by omega) (c13.fall.small.take _)))) (kt0 rfl ?_)
            refine gk (.cons (.head) (.cons (.head) (.nil))) ?_
            refine wg_takep_if (i := 8) rfl (ov_lss rfl rfl) rfl rfl rfl (by kernel_rfl) (by kernel_rfl) (by kernel_rfl) rfl (fun c47 => ?_) (fun c47 => ?_)
            ·
              refine wg_done (by kernel_rfl) ?_
              refine ce_then ?_
              refine cw_true rfl ?_
              refine cw_seq ?_
              refine cw_region ?_
              refine wl_v (ov_assign rfl) rfl rfl rfl ?_
              refine wl_nil ?_
              refine ce_then ?_
              refine cw_ret ?_
              refine ce_block_ret ?_
              refine ce_then_ret ?_
              refine ce_then_ret ?_
              refine ce_block_ret ?_
              refine ce_then_ret ?_
              refine ce_results (v := .bool false) (res1 rfl (rv_t rfl)) (fun w' hw => ?_)
              exact ⟨(bf (fun h => by rcases k with _ | k; simp at c47; have := h.2.2.2.1 k (by omega); omega)), (Keep.nil.ss hw).to_new⟩
            ·
              refine wg_done (by kernel_rfl) ?_
              refine ce_then ?_
              refine cw_false rfl ?_
              refine cw_skip ?_
              refine ce_block ?_
              refine ce_then ?_
              refine cw_region ?_
              refine wl_v (ov_add (r := ((k + 1 : Nat) : Int)) rfl rfl rfl (by omega)) rfl rfl rfl ?_
              refine wl_v (ov_move rfl) rfl rfl rfl ?_
              refine wl_nil ?_
              exact fun a w hs => hR0 (k + 1) ⟨by omega, fun q hq => by rcases Nat.lt_succ_iff_lt_or_eq.1 hq with h | rfl; exact hk2 q h; omega⟩ (by omega) a w (hs.weaken (.cons rfl (.cons rfl (.cons rfl (.cons rfl (.nil))))) (.cons (.head) (.cons (.head) (.nil))))
          ·
            refine wl_nil ?_
            refine ce_then ?_
            refine cw_seq ?_
            refine cw_false rfl ?_
            refine cw_exit ?_
            refine ce_then_exit ?_
            refine ce_then_exit ?_
            refine ce_hit ?_
            refine ce_then ?_
            refine cw_seq ?_
            refine cw_region ?_
            refine wl_v (ov_assign rfl) rfl rfl rfl ?_
            refine wl_nil ?_
            refine ce_then ?_
            refine cw_ret ?_
            refine ce_results (v := .bool true) (res1 rfl (rv_t rfl)) (fun w' hw => ?_)
            exact ⟨(bt ⟨c9, c13, by omega, fun q hq => by by_cases e : q + 1 < xs.length; exact hk2 (q + 1) (by omega); rw [List.take_of_length_le (by rw [fall_length]; omega), List.take_of_length_le (by rw [fall_length]; omega), total_fall, total_fall]; omega, by omega⟩), (Keep.nil.ss hw).to_new⟩
    ·
      refine wl_go rfl rfl ?_
      refine wl_v (ov_not rfl) rfl rfl rfl ?_
      refine wl_v (ov_pick_f rfl rfl) rfl rfl rfl ?_
      refine wl_v (ov_move rfl) rfl rfl rfl ?_
      refine wl_not rfl rfl rfl rfl rfl rfl ?_
      refine wl_not rfl rfl rfl rfl rfl rfl ?_
      refine wl_not rfl rfl rfl rfl rfl rfl ?_
      refine wl_not rfl rfl rfl rfl rfl rfl ?_
      refine wl_not rfl rfl rfl rfl rfl rfl ?_
      refine wl_v (ov_pick_t rfl rfl) rfl rfl rfl ?_
      refine wl_v (ov_move rfl) rfl rfl rfl ?_
      refine wl_not rfl rfl rfl rfl rfl rfl ?_
      refine wl_not rfl rfl rfl rfl rfl rfl ?_
      refine wl_not rfl rfl rfl rfl rfl rfl ?_
      refine wl_not rfl rfl rfl rfl rfl rfl ?_
      refine wl_not rfl rfl rfl rfl rfl rfl ?_
      refine wl_v (ov_pick_t rfl rfl) rfl rfl rfl ?_
      refine wl_nil ?_
      refine ce_then ?_
      refine cw_true rfl ?_
      refine cw_seq ?_
      refine cw_region ?_
      refine wl_v (ov_assign rfl) rfl rfl rfl ?_
      refine wl_nil ?_
      refine ce_then ?_
      refine cw_ret ?_
      refine ce_then_ret ?_
      refine ce_results (v := .bool false) (res1 rfl (rv_t rfl)) (fun w' hw => ?_)
      exact ⟨(bf (fun h => c13 h.2.1)), (Keep.nil.ss hw).to_new⟩
  ·
    refine wl_v (ov_not rfl) rfl rfl rfl ?_
    refine wl_v (ov_move rfl) rfl rfl rfl ?_
    refine wl_not rfl rfl rfl rfl rfl rfl ?_
    refine wl_not rfl rfl rfl rfl rfl rfl ?_
    refine wl_not rfl rfl rfl rfl rfl rfl ?_
    refine wl_v (ov_pick_t rfl rfl) rfl rfl rfl ?_
    refine wl_v (ov_move rfl) rfl rfl rfl ?_
    refine wl_not rfl rfl rfl rfl rfl rfl ?_
    refine wl_not rfl rfl rfl rfl rfl rfl ?_
    refine wl_not rfl rfl rfl rfl rfl rfl ?_
    refine wl_not rfl rfl rfl rfl rfl rfl ?_
    refine wl_not rfl rfl rfl rfl rfl rfl ?_
    refine wl_v (ov_pick_t rfl rfl) rfl rfl rfl ?_
    refine wl_v (ov_move rfl) rfl rfl rfl ?_
    refine wl_not rfl rfl rfl rfl rfl rfl ?_
    refine wl_not rfl rfl rfl rfl rfl rfl ?_
    refine wl_not rfl rfl rfl rfl rfl rfl ?_
    refine wl_not rfl rfl rfl rfl rfl rfl ?_
    refine wl_not rfl rfl rfl rfl rfl rfl ?_
    refine wl_v (ov_pick_t rfl rfl) rfl rfl rfl ?_
    refine wl_nil ?_
    refine ce_then ?_
    refine cw_true rfl ?_
    refine cw_seq ?_
    refine cw_region ?_
    refine wl_v (ov_assign rfl) rfl rfl rfl ?_
    refine wl_nil ?_
    refine ce_then ?_
    refine cw_ret ?_
    refine ce_then_ret ?_
    refine ce_results (v := .bool false) (res1 rfl (rv_t rfl)) (fun w' hw => ?_)
    exact ⟨(bf (fun h => c9 h.1)), (Keep.nil.ss hw).to_new⟩
set_option maxRecDepth 100000 in
theorem validMS_c (w : World) (A : Option Addr) (n : Nat) (c : Nat) (xs : List (Int)) (A2 : Option Addr) (n2 : Nat) (c2 : Nat) (ys : List (Int)) (hA : At w A (cells fI xs)) (eA : xs.length = n) (lA : n ≤ c) (hA2 : At w A2 (cells fI ys)) (eA2 : ys.length = n2) (lA2 : n2 ≤ c2) (hs : xs.length ≤ 1048576 ∧ ys.length ≤ 1048576) : Calls Try.prog 50 #[.slice A (n) (c), .slice A2 (n2) (c2)] w (Ret fun rv w' => rv = .bool (decide (ValidM xs ys)) ∧ New w w' []) := by
  have oA := hA.atB
  subst eA
  have oA2 := hA2.atB
  subst eA2
  refine fn_enter (args := [.slice A (xs.length) (c), .slice A2 (ys.length) (c2)]) Try.func50 rfl Try.ntmps50 rfl (SS.start w) ?_
  refine cw_seq ?_
  refine cw_region ?_
  refine wl_v (ov_assign rfl) rfl rfl rfl ?_
  refine wl_nil ?_
  refine ce_then ?_
  refine cw_seq ?_
  refine cw_seq ?_
  refine cw_region ?_
  refine wl_v (ov_assign rfl) rfl rfl rfl ?_
  refine wl_nil ?_
  refine ce_then ?_
  refine cw_block ?_
  refine cw_loop1 (fun (k : Nat) => [(0, .slice A (xs.length) (c)), (1, .slice A2 (ys.length) (c2)), (5, .int .i64 (((k : Nat) : Int)))]) (fun (k : Nat) => []) (fun (k : Nat) => k ≤ xs.length ∧ ∀ x ∈ xs.take k, 0 ≤ x ∧ x ≤ (ys.length : Int)) (fun (k : Nat) => xs.length - k) 0 ⟨by omega, by simp⟩ (.cons rfl (.cons rfl (.cons (congrArg (fun z => some (Value.int .i64 z)) (show 0 = ((0 : Nat) : Int) by first | omega | rfl | (simp; done))) (.nil)))) (.nil) ?_
  intro R0 k hk hR0
  obtain ⟨ha1, ha2⟩ := hk
  refine cw_seq ?_
  refine cw_seq ?_
  refine cw_region ?_
  refine wl_v (ov_move rfl) rfl rfl rfl ?_
  refine wl_v (ov_move rfl) rfl rfl rfl ?_
  refine wl_v (ov_len (sliceI_spec sI22) rfl) rfl rfl rfl ?_
  refine wl_if (ov_lss rfl rfl) rfl rfl rfl (fun c10 => ?_) (fun c10 => ?_)
  ·
    refine wl_nil ?_
    refine ce_then ?_
    refine cw_true rfl ?_
    refine cw_skip ?_
    refine ce_then ?_
    refine cw_seq ?_
    refine cw_block ?_
    refine cw_seq ?_
    refine cw_region ?_
    refine wl_v (ov_move rfl) rfl rfl rfl ?_
    refine wl_v (ov_move rfl) rfl rfl rfl ?_
    refine wl_v (ov_index (k := k) (c := c) sI22 tI3 rfl rfl (some_holds (q := k * 1) (holds_old oA) (by rw [cells_length fI_len]; have hlt : k < xs.length := (by first | omega | (simp; omega)); omega)) (show k < xs.length from (by first | omega | (simp; omega)))) rfl rfl rfl ?_
    refine wl_v (ov_load tI3 (holds_old oA) rfl (get_fI (show k < xs.length from (by first | omega | (simp; omega))))) rfl rfl rfl ?_
    refine wl_v (ov_move rfl) rfl rfl rfl ?_
    refine wl_v (ov_len (sliceI_spec sI22) rfl) rfl rfl rfl ?_
    refine wl_r (or_call (fv := []) (vs := [.int .i64 ((xs.getD k 0)), .int .i64 (0), .int .i64 (((ys.length : Nat) : Int))]) (cs := []) en55 rfl rfl (call_v (fun w hw => inRange_c w (xs.getD k 0) 0 ((ys.length : Nat) : Int) ))) rfl rfl (kt_if rfl (fun c19 => ?_) (fun c19 => ?_))
    ·
      refine wl_v (ov_not rfl) rfl rfl rfl ?_
      refine wl_nil ?_
      refine ce_then ?_
      refine cw_false rfl ?_
      refine cw_skip ?_
      refine ce_block ?_
      refine ce_then ?_
      refine cw_region ?_
      refine wl_v (ov_move rfl) rfl rfl rfl ?_
      refine wl_v (ov_add (r := ((k + 1 : Nat) : Int)) rfl rfl rfl (by omega)) rfl rfl rfl ?_
      refine wl_v (ov_assign rfl) rfl rfl rfl ?_
      refine wl_nil ?_
      exact fun a w hs => hR0 (k + 1) ⟨by omega, all_take_step 0 (by omega) ha2 (by omega)⟩ (by omega) a w (hs.weaken (.cons rfl (.cons rfl (.cons rfl (.nil)))) (.nil))
    ·
      refine wl_v (ov_not rfl) rfl rfl rfl ?_
      refine wl_nil ?_
      refine ce_then ?_
      refine cw_true rfl ?_
      refine cw_seq ?_
      refine cw_region ?_
      refine wl_v (ov_assign rfl) rfl rfl rfl ?_
      refine wl_nil ?_
      refine ce_then ?_
      refine cw_ret ?_
      refine ce_block_ret ?_
      refine ce_then_ret ?_
      refine ce_then_ret ?_
      refine ce_block_ret ?_
      refine ce_then_ret ?_
      refine ce_results (v := .bool false) (res1 rfl (rv_t rfl)) (fun w' hw => ?_)
      exact ⟨(bf (fun h => c19 (h.2.2.1 _ (getD_mem 0 (by omega))))), (Keep.nil.ss hw).to_new⟩
  ·
    refine wl_nil ?_
    refine ce_then ?_
    refine cw_false rfl ?_
    refine cw_exit ?_
    refine ce_then_exit ?_
    refine ce_then_exit ?_
    refine ce_hit ?_
    refine ce_then ?_
    refine cw_seq ?_
    refine cw_seq ?_
    refine cw_region ?_
    refine wl_v (ov_assign rfl) rfl rfl rfl ?_
    refine wl_nil ?_
    refine ce_then ?_
    refine cw_block ?_
    refine cw_loop1 (fun (q : Nat) => [(0, .slice A (xs.length) (c)), (1, .slice A2 (ys.length) (c2)), (6, .int .i64 (((q : Nat) : Int)))]) (fun (q : Nat) => []) (fun (q : Nat) => q ≤ ys.length ∧ ∀ x ∈ ys.take q, 0 ≤ x ∧ x ≤ (xs.length : Int)) (fun (q : Nat) => ys.length - q) 0 ⟨by omega, by simp⟩ (.cons rfl (.cons rfl (.cons (congrArg (fun z => some (Value.int .i64 z)) (show 0 = ((0 : Nat) : Int) by first | omega | rfl | (simp; done))) (.nil)))) (.nil) ?_
    intro R1 q hk1 hR1
    obtain ⟨hb1, hb2⟩ := hk1
    refine cw_seq ?_
    refine cw_seq ?_
    refine cw_region ?_
    refine wl_v (ov_move rfl) rfl rfl rfl ?_
    refine wl_v (ov_move rfl) rfl rfl rfl ?_
    refine wl_v (ov_len (sliceI_spec sI22) rfl) rfl rfl rfl ?_
    refine wl_if (ov_lss rfl rfl) rfl rfl rfl (fun c24 => ?_) (fun c24 => ?_)
    ·
      refine wl_nil ?_
      refine ce_then ?_
      refine cw_true rfl ?_
      refine cw_skip ?_
      refine ce_then ?_
      refine cw_seq ?_
      refine cw_block ?_
      refine cw_seq ?_
      refine cw_region ?_
      refine wl_v (ov_move rfl) rfl rfl rfl ?_
      refine wl_v (ov_move rfl) rfl rfl rfl ?_
      refine wl_v (ov_index (k := q) (c := c2) sI22 tI3 rfl rfl (some_holds (q := q * 1) (holds_old oA2) (by rw [cells_length fI_len]; have hlt : q < ys.length := (by first | omega | (simp; omega)); omega)) (show q < ys.length from (by first | omega | (simp; omega)))) rfl rfl rfl ?_
      refine wl_v (ov_load tI3 (holds_old oA2) rfl (get_fI (show q < ys.length from (by first | omega | (simp; omega))))) rfl rfl rfl ?_
      refine wl_v (ov_move rfl) rfl rfl rfl ?_
      refine wl_v (ov_len (sliceI_spec sI22) rfl) rfl rfl rfl ?_
      refine wl_r (or_call (fv := []) (vs := [.int .i64 ((ys.getD q 0)), .int .i64 (0), .int .i64 (((xs.length : Nat) : Int))]) (cs := []) en55 rfl rfl (call_v (fun w hw => inRange_c w (ys.getD q 0) 0 ((xs.length : Nat) : Int) ))) rfl rfl (kt_if rfl (fun c33 => ?_) (fun c33 => ?_))
      ·
        refine wl_v (ov_not rfl) rfl rfl rfl ?_
        refine wl_nil ?_
        refine ce_then ?_
        refine cw_false rfl ?_
        refine cw_skip ?_
        refine ce_block ?_
        refine ce_then ?_
        refine cw_region ?_
        refine wl_v (ov_move rfl) rfl rfl rfl ?_
        refine wl_v (ov_add (r := ((q + 1 : Nat) : Int)) rfl rfl rfl (by omega)) rfl rfl rfl ?_
        refine wl_v (ov_assign rfl) rfl rfl rfl ?_
        refine wl_nil ?_
        exact fun a w hs => hR1 (q + 1) ⟨by omega, all_take_step 0 (by omega) hb2 (by omega)⟩ (by omega) a w (hs.weaken (.cons rfl (.cons rfl (.cons rfl (.nil)))) (.nil))
      ·
        refine wl_v (ov_not rfl) rfl rfl rfl ?_
        refine wl_nil ?_
        refine ce_then ?_
        refine cw_true rfl ?_
        refine cw_seq ?_
        refine cw_region ?_
        refine wl_v (ov_assign rfl) rfl rfl rfl ?_
        refine wl_nil ?_
        refine ce_then ?_
        refine cw_ret ?_
        refine ce_block_ret ?_
        refine ce_then_ret ?_
        refine ce_then_ret ?_
        refine ce_block_ret ?_
        refine ce_then_ret ?_
        refine ce_results (v := .bool false) (res1 rfl (rv_t rfl)) (fun w' hw => ?_)
        exact ⟨(bf (fun h => c33 (h.2.2.2 _ (getD_mem 0 (by omega))))), (Keep.nil.ss hw).to_new⟩
    ·
      refine wl_nil ?_
      refine ce_then ?_
      refine cw_false rfl ?_
      refine cw_exit ?_
      refine ce_then_exit ?_
      refine ce_then_exit ?_
      refine ce_hit ?_
      refine ce_then ?_
      refine cw_seq ?_
      refine cw_region ?_
      refine wl_v (ov_move rfl) rfl rfl rfl ?_
      refine wl_v (ov_len (sliceI_spec sI22) rfl) rfl rfl rfl ?_
      refine wl_r (or_call (fv := []) (vs := [.int .i64 (((xs.length : Nat) : Int)), .int .i64 (1), .int .i64 (5)]) (cs := []) en55 rfl rfl (call_v (fun w hw => inRange_c w ((xs.length : Nat) : Int) 1 5 ))) rfl rfl (kt_if rfl (fun c37 => ?_) (fun c37 => ?_))
      ·
        refine wl_v (ov_move rfl) rfl rfl rfl ?_
        refine wl_go rfl rfl ?_
        refine wl_v (ov_move rfl) rfl rfl rfl ?_
        refine wl_go rfl rfl ?_
        refine wl_v (ov_len (sliceI_spec sI22) rfl) rfl rfl rfl ?_
        refine wl_go rfl rfl ?_
        refine wl_r (or_call (fv := []) (vs := [.int .i64 (((ys.length : Nat) : Int)), .int .i64 (1), .int .i64 (5)]) (cs := []) en55 rfl rfl (call_v (fun w hw => inRange_c w ((ys.length : Nat) : Int) 1 5 ))) rfl rfl (kt_if rfl (fun c41 => ?_) (fun c41 => ?_))
        ·
          refine wl_v (ov_pick_t rfl rfl) rfl rfl rfl ?_
          refine wl_v (ov_assign rfl) rfl rfl rfl ?_
          refine wl_nil ?_
          refine ce_then ?_
          refine cw_ret ?_
          refine ce_results (v := .bool true) (res1 rfl (rv_t rfl)) (fun w' hw => ?_)
          exact ⟨(bt ⟨by omega, by omega, take_all (k := k) (by omega) ha2, take_all (k := q) (by omega) hb2⟩), (Keep.nil.ss hw).to_new⟩
        ·
          refine wl_v (ov_pick_t rfl rfl) rfl rfl rfl ?_
          refine wl_v (ov_assign rfl) rfl rfl rfl ?_
          refine wl_nil ?_
          refine ce_then ?_
          refine cw_ret ?_
          refine ce_results (v := .bool false) (res1 rfl (rv_t rfl)) (fun w' hw => ?_)
          exact ⟨(bf (fun h => c41 (by have := h.2.1; omega))), (Keep.nil.ss hw).to_new⟩
      ·
        refine wl_v (ov_move rfl) rfl rfl rfl ?_
        refine wl_not rfl rfl rfl rfl rfl rfl ?_
        refine wl_not rfl rfl rfl rfl rfl rfl ?_
        refine wl_not rfl rfl rfl rfl rfl rfl ?_
        refine wl_v (ov_pick_f rfl rfl) rfl rfl rfl ?_
        refine wl_v (ov_assign rfl) rfl rfl rfl ?_
        refine wl_nil ?_
        refine ce_then ?_
        refine cw_ret ?_
        refine ce_results (v := .bool false) (res1 rfl (rv_t rfl)) (fun w' hw => ?_)
        exact ⟨(bf (fun h => c37 (by have := h.1; omega))), (Keep.nil.ss hw).to_new⟩
set_option maxRecDepth 100000 in
theorem validMI_c (w : World) (A : Option Addr) (n : Nat) (c : Nat) (xs : List (Int)) (A2 : Option Addr) (n2 : Nat) (c2 : Nat) (ys : List (Int)) (hA : At w A (cells fI xs)) (eA : xs.length = n) (lA : n ≤ c) (hA2 : At w A2 (cells fI ys)) (eA2 : ys.length = n2) (lA2 : n2 ≤ c2) (hs : xs.length ≤ 1048576 ∧ ys.length ≤ 1048576) : Calls Try.prog 52 #[.slice A (n) (c), .slice A2 (n2) (c2)] w (Ret fun rv w' => rv = .bool (decide (ValidM xs ys)) ∧ New w w' []) := by
  have oA := hA.atB
  subst eA
  have oA2 := hA2.atB
  subst eA2
  refine fn_enter (args := [.slice A (xs.length) (c), .slice A2 (ys.length) (c2)]) Try.func52 rfl Try.ntmps52 rfl (SS.start w) ?_
  refine cw_seq ?_
  refine cw_region ?_
  refine wl_v (ov_assign rfl) rfl rfl rfl ?_
  refine wl_nil ?_
  refine ce_then ?_
  refine cw_seq ?_
  refine cw_region ?_
  refine wl_v (ov_move rfl) rfl rfl rfl ?_
  refine wl_v (ov_len (sliceI_spec sI22) rfl) rfl rfl rfl ?_
  refine wl_r (or_call (fv := []) (vs := [.int .i64 (((xs.length : Nat) : Int)), .int .i64 (1), .int .i64 (5)]) (cs := []) en37 rfl rfl (call_v (fun w hw => in_c w ((xs.length : Nat) : Int) 1 5 ))) rfl rfl (kt_if rfl (fun c7 => ?_) (fun c7 => ?_))
  ·
    refine wl_v (ov_move rfl) rfl rfl rfl ?_
    refine wl_go rfl rfl ?_
    refine wl_v (ov_move rfl) rfl rfl rfl ?_
    refine wl_go rfl rfl ?_
    refine wl_v (ov_len (sliceI_spec sI22) rfl) rfl rfl rfl ?_
    refine wl_go rfl rfl ?_
    refine wl_r (or_call (fv := []) (vs := [.int .i64 (((ys.length : Nat) : Int)), .int .i64 (1), .int .i64 (5)]) (cs := []) en37 rfl rfl (call_v (fun w hw => in_c w ((ys.length : Nat) : Int) 1 5 ))) rfl rfl (kt_if rfl (fun c11 => ?_) (fun c11 => ?_))
    ·
      refine wl_v (ov_pick_t rfl rfl) rfl rfl rfl ?_
      refine wl_v (ov_move rfl) rfl rfl rfl ?_
      refine wl_go rfl rfl ?_
      refine wl_v (ov_move rfl) rfl rfl rfl ?_
      refine wl_go rfl rfl ?_
      refine wl_v (ov_move rfl) rfl rfl rfl ?_
      refine wl_go rfl rfl ?_
      refine wl_v (ov_len (sliceI_spec sI22) rfl) rfl rfl rfl ?_
      refine wl_go rfl rfl ?_
      refine wl_r (or_call (fv := []) (vs := [.slice A (xs.length) (c), .int .i64 (0), .int .i64 (((ys.length : Nat) : Int))]) (cs := []) en38 rfl rfl (call_v (fun w hw => allIn_c w A xs.length c xs 0 ((ys.length : Nat) : Int) ((holds_old oA) w hw) rfl lA (by first | assumption | omega | (simp; omega))))) rfl rfl (kt_if rfl (fun c17 => ?_) (fun c17 => ?_))
      ·
        refine wl_v (ov_pick_t rfl rfl) rfl rfl rfl ?_
        refine wl_v (ov_move rfl) rfl rfl rfl ?_
        refine wl_go rfl rfl ?_
        refine wl_v (ov_move rfl) rfl rfl rfl ?_
        refine wl_go rfl rfl ?_
        refine wl_v (ov_move rfl) rfl rfl rfl ?_
        refine wl_go rfl rfl ?_
        refine wl_v (ov_len (sliceI_spec sI22) rfl) rfl rfl rfl ?_
        refine wl_go rfl rfl ?_
        refine wl_r (or_call (fv := []) (vs := [.slice A2 (ys.length) (c2), .int .i64 (0), .int .i64 (((xs.length : Nat) : Int))]) (cs := []) en38 rfl rfl (call_v (fun w hw => allIn_c w A2 ys.length c2 ys 0 ((xs.length : Nat) : Int) ((holds_old oA2) w hw) rfl lA2 (by first | assumption | omega | (simp; omega))))) rfl rfl (kt_if rfl (fun c23 => ?_) (fun c23 => ?_))
        ·
          refine wl_v (ov_pick_t rfl rfl) rfl rfl rfl ?_
          refine wl_v (ov_assign rfl) rfl rfl rfl ?_
          refine wl_nil ?_
          refine ce_then ?_
          refine cw_ret ?_
          refine ce_results (v := .bool true) (res1 rfl (rv_t rfl)) (fun w' hw => ?_)
          exact ⟨(bt ⟨by omega, by omega, c17, c23⟩), (Keep.nil.ss hw).to_new⟩
        ·
          refine wl_v (ov_pick_t rfl rfl) rfl rfl rfl ?_
          refine wl_v (ov_assign rfl) rfl rfl rfl ?_
          refine wl_nil ?_
          refine ce_then ?_
          refine cw_ret ?_
          refine ce_results (v := .bool false) (res1 rfl (rv_t rfl)) (fun w' hw => ?_)
          exact ⟨(bf (fun h => c23 h.2.2.2)), (Keep.nil.ss hw).to_new⟩
      ·
        refine wl_v (ov_pick_t rfl rfl) rfl rfl rfl ?_
        refine wl_v (ov_move rfl) rfl rfl rfl ?_
        refine wl_not rfl rfl rfl rfl rfl rfl ?_
        refine wl_not rfl rfl rfl rfl rfl rfl ?_
        refine wl_not rfl rfl rfl rfl rfl rfl ?_
        refine wl_not rfl rfl rfl rfl rfl rfl ?_
        refine wl_v (ov_pick_f rfl rfl) rfl rfl rfl ?_
        refine wl_v (ov_assign rfl) rfl rfl rfl ?_
        refine wl_nil ?_
        refine ce_then ?_
        refine cw_ret ?_
        refine ce_results (v := .bool false) (res1 rfl (rv_t rfl)) (fun w' hw => ?_)
        exact ⟨(bf (fun h => c17 h.2.2.1)), (Keep.nil.ss hw).to_new⟩
    ·
      refine wl_v (ov_pick_t rfl rfl) rfl rfl rfl ?_
      refine wl_v (ov_move rfl) rfl rfl rfl ?_
      refine wl_not rfl rfl rfl rfl rfl rfl ?_
      refine wl_not rfl rfl rfl rfl rfl rfl ?_
      refine wl_not rfl rfl rfl rfl rfl rfl ?_
      refine wl_not rfl rfl rfl rfl rfl rfl ?_
      refine wl_v (ov_pick_f rfl rfl) rfl rfl rfl ?_
      refine wl_v (ov_move rfl) rfl rfl rfl ?_
      refine wl_not rfl rfl rfl rfl rfl rfl ?_
      refine wl_not rfl rfl rfl rfl rfl rfl ?_
      refine wl_not rfl rfl rfl rfl rfl rfl ?_
      refine wl_not rfl rfl rfl rfl rfl rfl ?_
      refine wl_v (ov_pick_f rfl rfl) rfl rfl rfl ?_
      refine wl_v (ov_assign rfl) rfl rfl rfl ?_
      refine wl_nil ?_
      refine ce_then ?_
      refine cw_ret ?_
      refine ce_results (v := .bool false) (res1 rfl (rv_t rfl)) (fun w' hw => ?_)
      exact ⟨(bf (fun h => c11 (by have := h.2.1; omega))), (Keep.nil.ss hw).to_new⟩
  ·
    refine wl_v (ov_move rfl) rfl rfl rfl ?_
    refine wl_not rfl rfl rfl rfl rfl rfl ?_
    refine wl_not rfl rfl rfl rfl rfl rfl ?_
    refine wl_not rfl rfl rfl rfl rfl rfl ?_
    refine wl_v (ov_pick_f rfl rfl) rfl rfl rfl ?_
    refine wl_v (ov_move rfl) rfl rfl rfl ?_
    refine wl_not rfl rfl rfl rfl rfl rfl ?_
    refine wl_not rfl rfl rfl rfl rfl rfl ?_
    refine wl_not rfl rfl rfl rfl rfl rfl ?_
    refine wl_not rfl rfl rfl rfl rfl rfl ?_
    refine wl_v (ov_pick_f rfl rfl) rfl rfl rfl ?_
    refine wl_v (ov_move rfl) rfl rfl rfl ?_
    refine wl_not rfl rfl rfl rfl rfl rfl ?_
    refine wl_not rfl rfl rfl rfl rfl rfl ?_
    refine wl_not rfl rfl rfl rfl rfl rfl ?_
    refine wl_not rfl rfl rfl rfl rfl rfl ?_
    refine wl_v (ov_pick_f rfl rfl) rfl rfl rfl ?_
    refine wl_v (ov_assign rfl) rfl rfl rfl ?_
    refine wl_nil ?_
    refine ce_then ?_
    refine cw_ret ?_
    refine ce_results (v := .bool false) (res1 rfl (rv_t rfl)) (fun w' hw => ?_)
    exact ⟨(bf (fun h => c7 (by have := h.1; omega))), (Keep.nil.ss hw).to_new⟩
set_option maxRecDepth 100000 in
theorem galeS_c (w : World) (A : Option Addr) (n : Nat) (c : Nat) (xs : List (Int)) (A2 : Option Addr) (n2 : Nat) (c2 : Nat) (ys : List (Int)) (hA : At w A (cells fI xs)) (eA : xs.length = n) (lA : n ≤ c) (hA2 : At w A2 (cells fI ys)) (eA2 : ys.length = n2) (lA2 : n2 ≤ c2) (hs : ValidM xs ys) : Calls Try.prog 51 #[.slice A (n) (c), .slice A2 (n2) (c2)] w (Ret fun rv w' => ∃ A3 c3, (n ≤ c3) ∧ rv = .slice A3 (n) (c3) ∧ New w w' [row 3 1 A3 (n) (c3) (cells fI (galeL xs ys))]) := by
  have oA := hA.atB
  subst eA
  have oA2 := hA2.atB
  subst eA2
  have h1 := hs.1
  have h2 := hs.2.1
  have hfl := fall_length xs
  have hsm := small_fall hs.smallR
  refine fn_enter (args := [.slice A (xs.length) (c), .slice A2 (ys.length) (c2)]) Try.func51 rfl Try.ntmps51 rfl (SS.start w) ?_
  refine cw_seq ?_
  refine cw_region ?_
  refine wl_v (ov_assign rfl) rfl rfl rfl ?_
  refine wl_nil ?_
  refine ce_then ?_
  refine cw_seq ?_
  refine cw_region ?_
  refine wl_v (ov_move rfl) rfl rfl rfl ?_
  refine wl_r (or_call (fv := []) (vs := [.slice A (xs.length) (c)]) (cs := []) en42 rfl rfl (call_x2 (fun w hw => fallingS_c w A xs.length c xs ((holds_old oA) w hw) rfl lA (by first | assumption | omega | (simp; omega))))) rfl rfl (kt2p rfl (fun A2_11 c2_11 h_11 => ?_))
  refine wl_v (ov_assign rfl) rfl rfl rfl ?_
  refine wl_nil ?_
  refine ce_then ?_
  refine cw_seq ?_
  refine cw_region ?_
  refine wl_r (or_buildSlice (e := 3) (size := 1) (is := []) (vs := []) (cs := cells fI ([])) rfl rfl rfl (by decide) (fun _ => by kernel_rfl)) rfl rfl (kt1 rfl (fun g12 => ?_))
  refine wl_v (ov_assign rfl) rfl rfl rfl ?_
  refine wl_nil ?_
  refine ce_then ?_
  refine cw_seq ?_
  refine cw_seq ?_
  refine cw_region ?_
  refine wl_v (ov_assign rfl) rfl rfl rfl ?_
  refine wl_nil ?_
  refine ce_then ?_
  refine cw_block ?_
  refine cw_loop3 (fun (q : Nat) (A3 : Option Addr) (c3 : Nat) => [(1, .slice A2 (ys.length) (c2)), (4, .slice none (0) (0)), (5, .slice A2_11 (xs.length) (c2_11)), (6, .slice A3 (q) (c3)), (7, .int .i64 (((q + 1 : Nat) : Int)))]) (fun (q : Nat) (A3 : Option Addr) (c3 : Nat) => [row 3 1 A3 (q) (c3) (cells fI ((List.range q).map (galeAt xs ys))), row 3 1 A2_11 (xs.length) (c2_11) (cells fI (fall xs))]) (fun (q : Nat) (A3 : Option Addr) (c3 : Nat) => q ≤ xs.length ∧ q ≤ c3) (fun (q : Nat) (A3 : Option Addr) (c3 : Nat) => xs.length - q) 0 (some ⟨g12, 0, none⟩) 0 ⟨by omega, Nat.le_refl _⟩ (.cons rfl (.cons rfl (.cons rfl (.cons rfl (.cons (congrArg (fun z => some (Value.int .i64 z)) (show 1 = ((0 + 1 : Nat) : Int) by first | omega | rfl | (simp; done))) (.nil)))))) (.consE (show row 3 1 (some ⟨g12, 0, none⟩) (0) (0) (cells fI ([])) = row 3 1 (some ⟨g12, 0, none⟩) (0) (0) (cells fI ((List.range 0).map (galeAt xs ys))) by rfl) (.head) (.cons (.head) (.nil))) ?_
  intro R0 q A3 c3 hk hR0
  obtain ⟨hk1, hk2⟩ := hk
  refine cw_seq ?_
  refine cw_seq ?_
  refine cw_region ?_
  refine wl_v (ov_move rfl) rfl rfl rfl ?_
  refine wl_v (ov_move rfl) rfl rfl rfl ?_
  refine wl_v (ov_len (sliceI_spec sI22) rfl) rfl rfl rfl ?_
  refine wl_if (ov_leq rfl rfl) rfl rfl rfl (fun c16 => ?_) (fun c16 => ?_)
  ·
    refine wl_nil ?_
    refine ce_then ?_
    refine cw_true rfl ?_
    refine cw_skip ?_
    refine ce_then ?_
    refine cw_seq ?_
    refine cw_block ?_
    refine cw_seq ?_
    refine cw_region ?_
    refine wl_v (ov_assign rfl) rfl rfl rfl ?_
    refine wl_nil ?_
    refine ce_then ?_
    refine cw_seq ?_
    refine cw_seq ?_
    refine cw_region ?_
    refine wl_v (ov_assign rfl) rfl rfl rfl ?_
    refine wl_nil ?_
    refine ce_then ?_
    refine cw_block ?_
    refine cw_loop1 (fun (j : Nat) => [(1, .slice A2 (ys.length) (c2)), (4, .slice none (0) (0)), (5, .slice A2_11 (xs.length) (c2_11)), (6, .slice A3 (q) (c3)), (7, .int .i64 (((q + 1 : Nat) : Int))), (8, .int .i64 (minsum (ys.take j) ((q + 1 : Nat) : Int))), (9, .int .i64 (((j : Nat) : Int)))]) (fun (j : Nat) => [row 3 1 A3 (q) (c3) (cells fI ((List.range q).map (galeAt xs ys))), row 3 1 A2_11 (xs.length) (c2_11) (cells fI (fall xs))]) (fun (j : Nat) => j ≤ ys.length) (fun (j : Nat) => ys.length - j) 0 (by omega) (.cons rfl (.cons rfl (.cons rfl (.cons rfl (.cons rfl (.cons (congrArg (fun z => some (Value.int .i64 z)) (show 0 = (minsum (ys.take 0) ((q + 1 : Nat) : Int)) from (by simp [minsum, total]))) (.cons (congrArg (fun z => some (Value.int .i64 z)) (show 0 = ((0 : Nat) : Int) by first | omega | rfl | (simp; done))) (.nil)))))))) (.cons (.head) (.cons (.head) (.nil))) ?_
    intro R1 j hk1 hR1
    have hmb := minsum_bd hs.smallC (k := ((q + 1 : Nat) : Int)) (by omega) j (by omega)
    refine cw_seq ?_
    refine cw_seq ?_
    refine cw_region ?_
    refine wl_v (ov_move rfl) rfl rfl rfl ?_
    refine wl_v (ov_move rfl) rfl rfl rfl ?_
    refine wl_v (ov_len (sliceI_spec sI22) rfl) rfl rfl rfl ?_
    refine wl_if (ov_lss rfl rfl) rfl rfl rfl (fun c22 => ?_) (fun c22 => ?_)
    ·
      refine wl_nil ?_
      refine ce_then ?_
      refine cw_true rfl ?_
      refine cw_skip ?_
      refine ce_then ?_
      refine cw_seq ?_
      refine cw_block ?_
      refine cw_region ?_
      refine wl_v (ov_move rfl) rfl rfl rfl ?_
      refine wl_v (ov_move rfl) rfl rfl rfl ?_
      refine wl_v (ov_move rfl) rfl rfl rfl ?_
      refine wl_v (ov_index (k := j) (c := c2) sI22 tI3 rfl rfl (some_holds (q := j * 1) (holds_old oA2) (by rw [cells_length fI_len]; have hlt : j < ys.length := (by first | omega | (simp; omega)); omega)) (show j < ys.length from (by first | omega | (simp; omega)))) rfl rfl rfl ?_
      refine wl_v (ov_load tI3 (holds_old oA2) rfl (get_fI (show j < ys.length from (by first | omega | (simp; omega))))) rfl rfl rfl ?_
      have hx := hs.smallC.at_ (k := j) (by omega)
      refine wl_v (ov_move rfl) rfl rfl rfl ?_
      refine wl_v (ov_min (r := min (ys.getD j 0) ((q + 1 : Nat) : Int)) rfl rfl (by first | omega | (split <;> omega))) rfl rfl rfl ?_
      refine wl_v (ov_add (r := (minsum (ys.take j) ((q + 1 : Nat) : Int)) + (min (ys.getD j 0) ((q + 1 : Nat) : Int))) rfl rfl rfl (by omega)) rfl rfl rfl ?_
      refine wl_v (ov_assign rfl) rfl rfl rfl ?_
      refine wl_nil ?_
      refine ce_block ?_
      refine ce_then ?_
      refine cw_region ?_
      refine wl_v (ov_move rfl) rfl rfl rfl ?_
      refine wl_v (ov_add (r := ((j + 1 : Nat) : Int)) rfl rfl rfl (by omega)) rfl rfl rfl ?_
      refine wl_v (ov_assign rfl) rfl rfl rfl ?_
      refine wl_nil ?_
      exact fun a w hs => hR1 (j + 1) (by omega) (by omega) a w (hs.weaken (.cons rfl (.cons rfl (.cons rfl (.cons rfl (.cons rfl (.cons (congrArg (fun z => some (Value.int .i64 z)) (show ((minsum (ys.take j) ((q + 1 : Nat) : Int)) + (min (ys.getD j 0) ((q + 1 : Nat) : Int))) = (minsum (ys.take (j + 1)) ((q + 1 : Nat) : Int)) from (by rw [minsum_take (by omega)]))) (.cons rfl (.nil)))))))) (.cons (.head) (.cons (.head) (.nil))))
    ·
      refine wl_nil ?_
      refine ce_then ?_
      refine cw_false rfl ?_
      refine cw_exit ?_
      refine ce_then_exit ?_
      refine ce_then_exit ?_
      refine ce_hit ?_
      refine ce_then ?_
      refine cw_region ?_
      refine wl_v (ov_move rfl) rfl rfl rfl ?_
      refine wl_v (ov_move rfl) rfl rfl rfl ?_
      refine wl_v (ov_move rfl) rfl rfl rfl ?_
      refine wl_v (ov_move rfl) rfl rfl rfl ?_
      refine wl_v (ov_slice_h (h := q + 1) sI22 tI3 rfl rfl (by omega)) rfl rfl rfl ?_
      have htb := total_bd hsm (q + 1) (by omega)
      refine wl_r (or_call (fv := []) (vs := [.slice A2_11 (q + 1) (c2_11)]) (cs := []) en60 rfl rfl (call_v (fun w hw => sum_c w A2_11 (q + 1) c2_11 ((fall xs).take (q + 1)) ((holds_takeC (k := (q + 1)) fI_len (holds_row (List.Mem.tail _ (List.Mem.head _)))) w hw) (by rw [List.length_take, hfl]; omega) (by omega) (hsm.take _)))) rfl rfl (kt0 rfl ?_)
      refine wl_v (ov_sub (r := (minsum (ys.take j) ((q + 1 : Nat) : Int)) - (total ((fall xs).take (q + 1)))) rfl rfl rfl (by omega)) rfl rfl rfl ?_
      refine wl_r (or_buildSlice (e := 3) (size := 1) (is := [0]) (vs := [.int .i64 ((minsum (ys.take j) ((q + 1 : Nat) : Int)) - (total ((fall xs).take (q + 1))))]) (cs := cells fI ([(minsum (ys.take j) ((q + 1 : Nat) : Int)) - (total ((fall xs).take (q + 1)))])) rfl rfl rfl (by decide) (fun _ => by kernel_rfl)) rfl rfl (kt1 rfl (fun g40 => ?_))
      refine wl_r (or_append (c2 := 1) sI22 tI3 rfl (by decide) rfl rfl (.tail .head) (holds_row (List.Mem.head _)) (by rw [cells_length fI_len]; try simp) (one_cells fI_one _) cells_append (by omega) (by omega)) rfl rfl (kt2p rfl (fun A41 c41 h41 => ?_))
      refine wl_v (ov_assign rfl) rfl rfl rfl ?_
      refine wl_nil ?_
      refine ce_block ?_
      refine ce_then ?_
      refine cw_region ?_
      refine wl_v (ov_move rfl) rfl rfl rfl ?_
      refine wl_v (ov_add (r := (((q + 1) + 1 : Nat) : Int)) rfl rfl rfl (by omega)) rfl rfl rfl ?_
      refine wl_v (ov_assign rfl) rfl rfl rfl ?_
      refine wl_nil ?_
      exact fun a w hs => hR0 (q + 1) A41 c41 ⟨by omega, h41⟩ (by omega) a w (hs.weaken (.cons rfl (.cons rfl (.cons rfl (.cons rfl (.cons rfl (.nil)))))) (.consE (show row 3 1 A41 (q + 1) (c41) (cells fI (((List.range q).map (galeAt xs ys)) ++ ([(minsum (ys.take j) ((q + 1 : Nat) : Int)) - (total ((fall xs).take (q + 1)))]))) = row 3 1 A41 ((q + 1)) (c41) (cells fI ((List.range (q + 1)).map (galeAt xs ys))) by rw [map_range_succ, ← galeTo_end (q := j) (by omega)] <;> rfl) (.head) (.cons (.tail .head) (.nil))))
  ·
    refine wl_nil ?_
    refine ce_then ?_
    refine cw_false rfl ?_
    refine cw_exit ?_
    refine ce_then_exit ?_
    refine ce_then_exit ?_
    refine ce_hit ?_
    refine ce_then ?_
    refine cw_seq ?_
    refine cw_region ?_
    refine wl_v (ov_move rfl) rfl rfl rfl ?_
    refine wl_v (ov_assign rfl) rfl rfl rfl ?_
    refine wl_nil ?_
    refine ce_then ?_
    refine cw_ret ?_
    refine ce_results (v := .slice A3 (q) (c3)) (res1 rfl (rv_t rfl)) (fun w' hw => ?_)
    exact ⟨A3, c3, (by omega), (by rw [show xs.length = q from by omega]), ((.consE (show row 3 1 A3 (q) (c3) (cells fI ((List.range q).map (galeAt xs ys))) = row 3 1 A3 (xs.length) (c3) (cells fI (galeL xs ys)) by rw [galeL, show xs.length = q from by omega]) (.head) (.nil) : Keep _ _).ss hw).to_new⟩
set_option maxRecDepth 100000 in
theorem GaleSlacksS_c (w : World) (A : Option Addr) (n : Nat) (c : Nat) (xs : List (Int)) (A2 : Option Addr) (n2 : Nat) (c2 : Nat) (ys : List (Int)) (hA : At w A (cells fI xs)) (eA : xs.length = n) (lA : n ≤ c) (hA2 : At w A2 (cells fI ys)) (eA2 : ys.length = n2) (lA2 : n2 ≤ c2) (hs : xs.length ≤ 1048576 ∧ ys.length ≤ 1048576) : Calls Try.prog 24 #[.slice A (n) (c), .slice A2 (n2) (c2)] w (Ret fun rv w' => ∃ A3 c3, ((galeV xs ys).length ≤ c3) ∧ rv = .slice A3 ((galeV xs ys).length) (c3) ∧ New w w' [row 3 1 A3 ((galeV xs ys).length) (c3) (cells fI (galeV xs ys))]) := by
  have oA := hA.atB
  subst eA
  have oA2 := hA2.atB
  subst eA2
  refine fn_enter (args := [.slice A (xs.length) (c), .slice A2 (ys.length) (c2)]) Try.func24 rfl Try.ntmps24 rfl (SS.start w) ?_
  refine cw_seq ?_
  refine cw_region ?_
  refine wl_v (ov_assign rfl) rfl rfl rfl ?_
  refine wl_nil ?_
  refine ce_then ?_
  refine cw_seq ?_
  refine cw_seq ?_
  refine cw_region ?_
  refine wl_v (ov_move rfl) rfl rfl rfl ?_
  refine wl_v (ov_move rfl) rfl rfl rfl ?_
  refine wl_r (or_call (fv := []) (vs := [.slice A (xs.length) (c), .slice A2 (ys.length) (c2)]) (cs := []) en50 rfl rfl (call_v (fun w hw => validMS_c w A xs.length c xs A2 ys.length c2 ys ((holds_old oA) w hw) rfl lA ((holds_old oA2) w hw) rfl lA2 (by first | assumption | omega | (simp; omega))))) rfl rfl (kt_if rfl (fun c7 => ?_) (fun c7 => ?_))
  ·
    refine wl_v (ov_not rfl) rfl rfl rfl ?_
    refine wl_nil ?_
    refine ce_then ?_
    refine cw_false rfl ?_
    refine cw_skip ?_
    refine ce_then ?_
    refine cw_seq ?_
    have hyes : galeV xs ys = galeL xs ys := if_pos c7
    have hll := galeL_len xs ys
    refine cw_region ?_
    refine wl_v (ov_move rfl) rfl rfl rfl ?_
    refine wl_v (ov_move rfl) rfl rfl rfl ?_
    refine wl_r (or_call (fv := []) (vs := [.slice A (xs.length) (c), .slice A2 (ys.length) (c2)]) (cs := []) en51 rfl rfl (call_x2 (fun w hw => galeS_c w A xs.length c xs A2 ys.length c2 ys ((holds_old oA) w hw) rfl lA ((holds_old oA2) w hw) rfl lA2 (by first | assumption | omega | (simp; omega))))) rfl rfl (kt2p rfl (fun A3_11 c3_11 h_11 => ?_))
    refine wl_v (ov_assign rfl) rfl rfl rfl ?_
    refine wl_nil ?_
    refine ce_then ?_
    refine cw_ret ?_
    refine ce_results (v := .slice A3_11 (xs.length) (c3_11)) (res1 rfl (rv_t rfl)) (fun w' hw => ?_)
    exact ⟨A3_11, c3_11, (by rw [hyes, hll]; exact h_11), (by rw [hyes, hll]), ((.consE (show row 3 1 A3_11 (xs.length) (c3_11) (cells fI (galeL xs ys)) = row 3 1 A3_11 ((galeV xs ys).length) (c3_11) (cells fI (galeV xs ys)) by rw [hyes, hll]) (.head) (.nil) : Keep _ _).ss hw).to_new⟩
  ·
    refine wl_v (ov_not rfl) rfl rfl rfl ?_
    refine wl_nil ?_
    refine ce_then ?_
    refine cw_true rfl ?_
    refine cw_seq ?_
    have hno : galeV xs ys = [] := if_neg c7
    refine ct_none fI 3 1 ?_
    refine cw_region ?_
    refine wl_v (ov_assign rfl) rfl rfl rfl ?_
    refine wl_nil ?_
    refine ce_then ?_
    refine cw_ret ?_
    refine ce_then_ret ?_
    refine ce_results (v := .slice none (0) (0)) (res1 rfl (rv_t rfl)) (fun w' hw => ?_)
    exact ⟨none, 0, (by rw [hno]; exact Nat.le_refl _), (by rw [hno] <;> rfl), ((.consE (show row 3 1 none (0) (0) (cells fI ([])) = row 3 1 none ((galeV xs ys).length) (0) (cells fI (galeV xs ys)) by rw [hno] <;> rfl) (.head) (.nil) : Keep _ _).ss hw).to_new⟩
set_option maxRecDepth 100000 in
theorem GaleSlacksI_c (w : World) (A : Option Addr) (n : Nat) (c : Nat) (xs : List (Int)) (A2 : Option Addr) (n2 : Nat) (c2 : Nat) (ys : List (Int)) (hA : At w A (cells fI xs)) (eA : xs.length = n) (lA : n ≤ c) (hA2 : At w A2 (cells fI ys)) (eA2 : ys.length = n2) (lA2 : n2 ≤ c2) (hs : xs.length ≤ 1048576 ∧ ys.length ≤ 1048576) : Calls Try.prog 25 #[.slice A (n) (c), .slice A2 (n2) (c2)] w (Ret fun rv w' => ∃ A3 c3, ((galeV xs ys).length ≤ c3) ∧ rv = .slice A3 ((galeV xs ys).length) (c3) ∧ New w w' [row 3 1 A3 ((galeV xs ys).length) (c3) (cells fI (galeV xs ys))]) := by
  have oA := hA.atB
  subst eA
  have oA2 := hA2.atB
  subst eA2
  refine fn_enter (args := [.slice A (xs.length) (c), .slice A2 (ys.length) (c2)]) Try.func25 rfl Try.ntmps25 rfl (SS.start w) ?_
  refine cw_seq ?_
  refine cw_region ?_
  refine wl_v (ov_assign rfl) rfl rfl rfl ?_
  refine wl_nil ?_
  refine ce_then ?_
  refine cw_seq ?_
  refine cw_seq ?_
  refine cw_region ?_
  refine wl_v (ov_move rfl) rfl rfl rfl ?_
  refine wl_v (ov_move rfl) rfl rfl rfl ?_
  refine wl_r (or_call (fv := []) (vs := [.slice A (xs.length) (c), .slice A2 (ys.length) (c2)]) (cs := []) en52 rfl rfl (call_v (fun w hw => validMI_c w A xs.length c xs A2 ys.length c2 ys ((holds_old oA) w hw) rfl lA ((holds_old oA2) w hw) rfl lA2 (by first | assumption | omega | (simp; omega))))) rfl rfl (kt_if rfl (fun c12 => ?_) (fun c12 => ?_))
  ·
    refine wl_v (ov_not rfl) rfl rfl rfl ?_
    refine wl_nil ?_
    refine ce_then ?_
    refine cw_false rfl ?_
    refine cw_skip ?_
    refine ce_then ?_
    refine cw_seq ?_
    have hV := c12
    have h1 := hV.1
    have h2 := hV.2.1
    have hyes : galeV xs ys = galeL xs ys := if_pos hV
    have hll := galeL_len xs ys
    have hfl := fall_length xs
    have hsm := small_fall hV.smallR
    refine cw_region ?_
    refine wl_v (ov_move rfl) rfl rfl rfl ?_
    refine wl_r (or_call (fv := []) (vs := [.slice A (xs.length) (c)]) (cs := []) en32 rfl rfl (call_x2 (fun w hw => fallingI_c w A xs.length c xs ((holds_old oA) w hw) rfl lA (by first | assumption | omega | (simp; omega))))) rfl rfl (kt2p rfl (fun A2_15 c2_15 h_15 => ?_))
    refine wl_v (ov_assign rfl) rfl rfl rfl ?_
    refine wl_nil ?_
    refine ce_then ?_
    refine cw_seq ?_
    refine cw_region ?_
    refine wl_v (ov_move rfl) rfl rfl rfl ?_
    refine wl_v (ov_len (sliceI_spec sI22) rfl) rfl rfl rfl ?_
    refine wl_r (or_makeSlice (m := xs.length) sI22 tI3 rfl rfl (made_fI _) (by omega) (show xs.length ≤ maxLen by simp only [maxLen]; omega)) rfl rfl (kt1 rfl (fun g18 => ?_))
    refine wl_v (ov_assign rfl) rfl rfl rfl ?_
    refine wl_nil ?_
    refine ce_then ?_
    refine cw_seq ?_
    refine cw_seq ?_
    refine cw_region ?_
    refine wl_v (ov_move rfl) rfl rfl rfl ?_
    refine wl_v (ov_len (sliceI_spec sI22) rfl) rfl rfl rfl ?_
    refine wl_v (ov_move rfl) rfl rfl rfl ?_
    refine wl_nil ?_
    refine ce_then ?_
    refine cw_block ?_
    refine cw_loop1 (fun (k : Nat) => [(1, .slice A2 (ys.length) (c2)), (4, .slice none (0) (0)), (5, .slice A2_15 (xs.length) (xs.length)), (6, .slice (some ⟨g18, 0, none⟩) (xs.length) (xs.length)), (20, .int .i64 (((xs.length : Nat) : Int))), (21, .int .i64 (((k : Nat) : Int)))]) (fun (k : Nat) => [row 3 1 (some ⟨g18, 0, none⟩) (xs.length) (xs.length) (cells fI ((List.range k).map (galeAt xs ys) ++ List.replicate (xs.length - k) 0)), row 3 1 A2_15 (xs.length) (c2_15) (cells fI (fall xs))]) (fun (k : Nat) => k ≤ xs.length) (fun (k : Nat) => xs.length - k) 0 (by omega) (.cons rfl (.cons rfl (.cons rfl (.cons rfl (.cons rfl (.cons (congrArg (fun z => some (Value.int .i64 z)) (show 0 = ((0 : Nat) : Int) by first | omega | rfl | (simp; done))) (.nil))))))) (.consE (show row 3 1 (some ⟨g18, 0, none⟩) (xs.length) (xs.length) (cells fI (List.replicate xs.length 0)) = row 3 1 (some ⟨g18, 0, none⟩) (xs.length) (xs.length) (cells fI ((List.range 0).map (galeAt xs ys) ++ List.replicate (xs.length - 0) 0)) by simp) (.head) (.cons (.head) (.nil))) ?_
    intro R0 k hk hR0
    have htb := fun (hlt : k < xs.length) => total_bd hsm (k + 1) (by omega)
    have hbl : ((List.range k).map (galeAt xs ys) ++ List.replicate (xs.length - k) 0).length = xs.length := by simp; omega
    refine cw_seq ?_
    refine cw_region ?_
    refine wl_if (ov_lss rfl rfl) rfl rfl rfl (fun c22 => ?_) (fun c22 => ?_)
    ·
      have htb2 := htb (by omega)
      refine wl_nil ?_
      refine ce_then ?_
      refine cw_seq ?_
      refine cw_true rfl ?_
      refine cw_skip ?_
      refine ce_then ?_
      refine cw_seq ?_
      refine cw_block ?_
      refine cw_seq ?_
      refine cw_region ?_
      refine wl_v (ov_move rfl) rfl rfl rfl ?_
      refine wl_v (ov_assign rfl) rfl rfl rfl ?_
      refine wl_nil ?_
      refine ce_then ?_
      refine cw_seq ?_
      refine cw_region ?_
      refine wl_v (ov_move rfl) rfl rfl rfl ?_
      refine wl_v (ov_move rfl) rfl rfl rfl ?_
      refine wl_v (ov_move rfl) rfl rfl rfl ?_
      refine wl_v (ov_move rfl) rfl rfl rfl ?_
      refine wl_v (ov_add (r := ((k + 1 : Nat) : Int)) rfl rfl rfl (by omega)) rfl rfl rfl ?_
      refine wl_v (ov_slice_h (h := k + 1) sI22 tI3 rfl rfl (by omega)) rfl rfl rfl ?_
      refine wl_r (or_call (fv := []) (vs := [.slice A2_15 (k + 1) (xs.length)]) (cs := []) en31 rfl rfl (call_v (fun w hw => sumI_c w A2_15 (k + 1) xs.length ((fall xs).take (k + 1)) ((holds_takeC (k := (k + 1)) fI_len (holds_row (List.Mem.tail _ (List.Mem.head _)))) w hw) (by rw [List.length_take, hfl]; omega) (by omega) (hsm.take _)))) rfl rfl (kt0 rfl ?_)
      refine wl_v (ov_neg (r := -(total ((fall xs).take (k + 1)))) rfl rfl (by omega)) rfl rfl rfl ?_
      refine wl_v (ov_index (k := k) (c := xs.length) sI22 tI3 rfl rfl (some_holds (q := k * 1) (holds_row (List.Mem.head _)) (by rw [cells_length fI_len]; have hlt : k < ((List.range k).map (galeAt xs ys) ++ List.replicate (xs.length - k) 0).length := (by first | omega | (rw [hbl]; omega)); omega)) (show k < xs.length from (by first | omega | (rw [hbl]; omega)))) rfl rfl rfl ?_
      refine wl_r0 (or_store_row (vs := [.int .i64 (-(total ((fall xs).take (k + 1))))]) (cs' := cells fI (((List.range k).map (galeAt xs ys) ++ List.replicate (xs.length - k) 0).set k (-(total ((fall xs).take (k + 1)))))) (.head) tI3 rfl rfl rfl rfl (by rw [cells_length fI_len]; have hlt := (show k < ((List.range k).map (galeAt xs ys) ++ List.replicate (xs.length - k) 0).length from (by first | omega | (rw [hbl]; omega))); simp only [List.length_cons, List.length_nil]; omega) (by simp) (cells_splice fI_len (show k < ((List.range k).map (galeAt xs ys) ++ List.replicate (xs.length - k) 0).length from (by first | omega | (rw [hbl]; omega))) (-(total ((fall xs).take (k + 1)))))) rfl rfl (kn0 ?_)
      refine wl_nil ?_
      refine ce_then ?_
      refine cw_seq ?_
      refine cw_region ?_
      refine wl_v (ov_move rfl) rfl rfl rfl ?_
      refine wl_v (ov_len (sliceI_spec sI22) rfl) rfl rfl rfl ?_
      refine wl_v (ov_move rfl) rfl rfl rfl ?_
      refine wl_nil ?_
      refine ce_then ?_
      refine cw_block ?_
      refine cw_loop1 (fun (j : Nat) => [(1, .slice A2 (ys.length) (c2)), (4, .slice none (0) (0)), (5, .slice A2_15 (xs.length) (xs.length)), (6, .slice (some ⟨g18, 0, none⟩) (xs.length) (xs.length)), (7, .int .i64 (((k : Nat) : Int))), (20, .int .i64 (((xs.length : Nat) : Int))), (21, .int .i64 (((k : Nat) : Int))), (33, .slice A2 (ys.length) (c2)), (34, .int .i64 (((ys.length : Nat) : Int))), (35, .int .i64 (((j : Nat) : Int)))]) (fun (j : Nat) => [row 3 1 (some ⟨g18, 0, none⟩) (xs.length) (xs.length) (cells fI (((List.range k).map (galeAt xs ys) ++ List.replicate (xs.length - k) 0).set k (galeTo xs ys k j))), row 3 1 A2_15 (xs.length) (c2_15) (cells fI (fall xs))]) (fun (j : Nat) => j ≤ ys.length) (fun (j : Nat) => ys.length - j) 0 (by omega) (.cons rfl (.cons rfl (.cons rfl (.cons rfl (.cons rfl (.cons rfl (.cons rfl (.cons rfl (.cons rfl (.cons (congrArg (fun z => some (Value.int .i64 z)) (show 0 = ((0 : Nat) : Int) by first | omega | rfl | (simp; done))) (.nil))))))))))) (.consE (show row 3 1 (some ⟨g18, 0, none⟩) (xs.length) (xs.length) (cells fI (((List.range k).map (galeAt xs ys) ++ List.replicate (xs.length - k) 0).set k (-(total ((fall xs).take (k + 1)))))) = row 3 1 (some ⟨g18, 0, none⟩) (xs.length) (xs.length) (cells fI (((List.range k).map (galeAt xs ys) ++ List.replicate (xs.length - k) 0).set k (galeTo xs ys k 0))) by rw [galeTo_zero]) (.head) (.cons (.head) (.nil))) ?_
      intro R1 j hk1 hR1
      have hgb := galeTo_bd hV (i := k) (q := j) (by omega) (by omega)
      refine cw_seq ?_
      refine cw_region ?_
      refine wl_if (ov_lss rfl rfl) rfl rfl rfl (fun c36 => ?_) (fun c36 => ?_)
      ·
        refine wl_nil ?_
        refine ce_then ?_
        refine cw_seq ?_
        refine cw_true rfl ?_
        refine cw_skip ?_
        refine ce_then ?_
        refine cw_seq ?_
        refine cw_block ?_
        refine cw_seq ?_
        refine cw_region ?_
        refine wl_v (ov_index (k := j) (c := c2) sI22 tI3 rfl rfl (some_holds (q := j * 1) (holds_old oA2) (by rw [cells_length fI_len]; have hlt : j < ys.length := (by omega); omega)) (show j < ys.length from (by omega))) rfl rfl rfl ?_
        refine wl_v (ov_load tI3 (holds_old oA2) rfl (get_fI (show j < ys.length from (by omega)))) rfl rfl rfl ?_
        have hx := hV.smallC.at_ (k := j) (by omega)
        refine wl_v (ov_assign rfl) rfl rfl rfl ?_
        refine wl_nil ?_
        refine ce_then ?_
        refine cw_region ?_
        refine wl_v (ov_move rfl) rfl rfl rfl ?_
        refine wl_v (ov_move rfl) rfl rfl rfl ?_
        refine wl_v (ov_index (k := k) (c := xs.length) sI22 tI3 rfl rfl (some_holds (q := k * 1) (holds_row (List.Mem.head _)) (by rw [cells_length fI_len]; have hlt : k < (((List.range k).map (galeAt xs ys) ++ List.replicate (xs.length - k) 0).set k (galeTo xs ys k j)).length := (by first | omega | (rw [List.length_set, hbl]; omega)); omega)) (show k < xs.length from (by first | omega | (rw [List.length_set, hbl]; omega)))) rfl rfl rfl ?_
        refine wl_v (ov_load tI3 (holds_row (List.Mem.head _)) rfl ((get_fI (show k < (((List.range k).map (galeAt xs ys) ++ List.replicate (xs.length - k) 0).set k (galeTo xs ys k j)).length from (by first | omega | (rw [List.length_set, hbl]; omega)))).trans (congrArg (fun z => some (Value.int .i64 z)) (show ((((List.range k).map (galeAt xs ys) ++ List.replicate (xs.length - k) 0).set k (galeTo xs ys k j)).getD k 0) = galeTo xs ys k j from (set_getD 0 _ (by omega)))))) rfl rfl rfl ?_
        refine wl_v (ov_move rfl) rfl rfl rfl ?_
        refine wl_v (ov_move rfl) rfl rfl rfl ?_
        refine wl_v (ov_add (r := ((k + 1 : Nat) : Int)) rfl rfl rfl (by omega)) rfl rfl rfl ?_
        refine wl_v (ov_min (r := min (ys.getD j 0) ((k + 1 : Nat) : Int)) rfl rfl (by first | omega | (split <;> omega))) rfl rfl rfl ?_
        refine wl_v (ov_add (r := (galeTo xs ys k j) + (min (ys.getD j 0) ((k + 1 : Nat) : Int))) rfl rfl rfl (by omega)) rfl rfl rfl ?_
        refine wl_v (ov_index (k := k) (c := xs.length) sI22 tI3 rfl rfl (some_holds (q := k * 1) (holds_row (List.Mem.head _)) (by rw [cells_length fI_len]; have hlt : k < (((List.range k).map (galeAt xs ys) ++ List.replicate (xs.length - k) 0).set k (galeTo xs ys k j)).length := (by first | omega | (rw [List.length_set, hbl]; omega)); omega)) (show k < xs.length from (by first | omega | (rw [List.length_set, hbl]; omega)))) rfl rfl rfl ?_
        refine wl_r0 (or_store_row (vs := [.int .i64 ((galeTo xs ys k j) + (min (ys.getD j 0) ((k + 1 : Nat) : Int)))]) (cs' := cells fI ((((List.range k).map (galeAt xs ys) ++ List.replicate (xs.length - k) 0).set k (galeTo xs ys k j)).set k ((galeTo xs ys k j) + (min (ys.getD j 0) ((k + 1 : Nat) : Int))))) (.head) tI3 rfl rfl rfl rfl (by rw [cells_length fI_len]; have hlt := (show k < (((List.range k).map (galeAt xs ys) ++ List.replicate (xs.length - k) 0).set k (galeTo xs ys k j)).length from (by first | omega | (rw [List.length_set, hbl]; omega))); simp only [List.length_cons, List.length_nil]; omega) (by simp) (cells_splice fI_len (show k < (((List.range k).map (galeAt xs ys) ++ List.replicate (xs.length - k) 0).set k (galeTo xs ys k j)).length from (by first | omega | (rw [List.length_set, hbl]; omega))) ((galeTo xs ys k j) + (min (ys.getD j 0) ((k + 1 : Nat) : Int))))) rfl rfl (kn0 ?_)
        refine wl_nil ?_
        refine ce_block ?_
        refine ce_then ?_
        refine cw_region ?_
        refine wl_v (ov_add (r := ((j + 1 : Nat) : Int)) rfl rfl rfl (by omega)) rfl rfl rfl ?_
        refine wl_v (ov_move rfl) rfl rfl rfl ?_
        refine wl_nil ?_
        exact fun a w hs => hR1 (j + 1) (by omega) (by omega) a w (hs.weaken (.cons rfl (.cons rfl (.cons rfl (.cons rfl (.cons rfl (.cons rfl (.cons rfl (.cons rfl (.cons rfl (.cons rfl (.nil))))))))))) (.consE (show row 3 1 (some ⟨g18, 0, none⟩) (xs.length) (xs.length) (cells fI ((((List.range k).map (galeAt xs ys) ++ List.replicate (xs.length - k) 0).set k (galeTo xs ys k j)).set k ((galeTo xs ys k j) + (min (ys.getD j 0) ((k + 1 : Nat) : Int))))) = row 3 1 (some ⟨g18, 0, none⟩) (xs.length) (xs.length) (cells fI (((List.range k).map (galeAt xs ys) ++ List.replicate (xs.length - k) 0).set k (galeTo xs ys k (j + 1)))) by rw [List.set_set, galeTo_succ (by omega)]) (.head) (.cons (.head) (.nil))))
      ·
        refine wl_nil ?_
        refine ce_then ?_
        refine cw_seq ?_
        refine cw_false rfl ?_
        refine cw_exit ?_
        refine ce_then_exit ?_
        refine ce_then_exit ?_
        refine ce_hit ?_
        refine ce_block ?_
        refine ce_then ?_
        refine cw_region ?_
        refine wl_v (ov_add (r := ((k + 1 : Nat) : Int)) rfl rfl rfl (by omega)) rfl rfl rfl ?_
        refine wl_v (ov_move rfl) rfl rfl rfl ?_
        refine wl_nil ?_
        exact fun a w hs => hR0 (k + 1) (by omega) (by omega) a w (hs.weaken (.cons rfl (.cons rfl (.cons rfl (.cons rfl (.cons rfl (.cons rfl (.nil))))))) (.consE (show row 3 1 (some ⟨g18, 0, none⟩) (xs.length) (xs.length) (cells fI (((List.range k).map (galeAt xs ys) ++ List.replicate (xs.length - k) 0).set k (galeTo xs ys k j))) = row 3 1 (some ⟨g18, 0, none⟩) (xs.length) (xs.length) (cells fI ((List.range (k + 1)).map (galeAt xs ys) ++ List.replicate (xs.length - (k + 1)) 0)) by rw [galeTo_end (by omega), made_step (by omega)]) (.head) (.cons (.head) (.nil))))
    ·
      refine wl_nil ?_
      refine ce_then ?_
      refine cw_seq ?_
      refine cw_false rfl ?_
      refine cw_exit ?_
      refine ce_then_exit ?_
      refine ce_then_exit ?_
      refine ce_hit ?_
      refine ce_then ?_
      refine cw_seq ?_
      refine cw_region ?_
      refine wl_v (ov_move rfl) rfl rfl rfl ?_
      refine wl_v (ov_assign rfl) rfl rfl rfl ?_
      refine wl_nil ?_
      refine ce_then ?_
      refine cw_ret ?_
      refine ce_results (v := .slice (some ⟨g18, 0, none⟩) (xs.length) (xs.length)) (res1 rfl (rv_t rfl)) (fun w' hw => ?_)
      exact ⟨some ⟨g18, 0, none⟩, xs.length, (by rw [hyes, hll]; exact Nat.le_refl _), (by rw [hyes, hll]), ((.consE (show row 3 1 (some ⟨g18, 0, none⟩) (xs.length) (xs.length) (cells fI ((List.range k).map (galeAt xs ys) ++ List.replicate (xs.length - k) 0)) = row 3 1 (some ⟨g18, 0, none⟩) ((galeV xs ys).length) (xs.length) (cells fI (galeV xs ys)) by rw [hyes, hll, galeL, show k = xs.length from by omega]; simp) (.head) (.nil) : Keep _ _).ss hw).to_new⟩
  ·
    refine wl_v (ov_not rfl) rfl rfl rfl ?_
    refine wl_nil ?_
    refine ce_then ?_
    refine cw_true rfl ?_
    refine cw_seq ?_
    have hno : galeV xs ys = [] := if_neg c12
    refine ct_none fI 3 1 ?_
    refine cw_region ?_
    refine wl_v (ov_assign rfl) rfl rfl rfl ?_
    refine wl_nil ?_
    refine ce_then ?_
    refine cw_ret ?_
    refine ce_then_ret ?_
    refine ce_results (v := .slice none (0) (0)) (res1 rfl (rv_t rfl)) (fun w' hw => ?_)
    exact ⟨none, 0, (by rw [hno]; exact Nat.le_refl _), (by rw [hno] <;> rfl), ((.consE (show row 3 1 none (0) (0) (cells fI ([])) = row 3 1 none ((galeV xs ys).length) (0) (cells fI (galeV xs ys)) by rw [hno] <;> rfl) (.head) (.nil) : Keep _ _).ss hw).to_new⟩
end Go.Proofs.Ytlmohafmpgpnaaa.W10
