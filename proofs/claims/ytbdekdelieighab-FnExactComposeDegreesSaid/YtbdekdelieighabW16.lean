/- Walks of functions of the given program: each returns what its Lean function says and leaves the memory that was there as it was. Conditions: those of each theorem. -/
import Derived.Test.YtbdekdelieighabSz
import Derived.Test.YtbdekdelieighabProg
import Derived.Test.YtbdekdelieighabPl
import Derived.Test.YtbdekdelieighabPo
import Derived.Test.YtbdekdelieighabPd
import Derived.Test.YtbdekdelieighabPe
import Derived.Test.YtbdekdelieighabPh
import Derived.Test.YtbdekdelieighabPm
import Derived.Test.YtbdekdelieighabPc
import Derived.Test.YtbdekdelieighabSo
import Derived.Test.YtbdekdelieighabSh
import Derived.Test.YtbdekdelieighabT
import Derived.Test.YtbdekdelieighabW1
import Derived.Test.YtbdekdelieighabW2
import Derived.Test.YtbdekdelieighabW3
import Derived.Test.YtbdekdelieighabW5
import Derived.Test.YtbdekdelieighabW6
import Derived.Test.YtbdekdelieighabW7
import Derived.Test.YtbdekdelieighabW8
import Derived.Test.YtbdekdelieighabW9
import Derived.Test.YtbdekdelieighabW10
import Derived.Test.YtbdekdelieighabW11
import Derived.Test.YtbdekdelieighabW12
import Derived.Test.YtbdekdelieighabW13
import Derived.Test.YtbdekdelieighabW14
import Derived.Test.YtbdekdelieighabW15
import Derived.KernelRfl
namespace Go.Proofs.Ytbdekdelieighab.W16
open Go.Sx Go.RowKit Go.Proofs.Ytbdekdelieighab.T Go.Proofs.Ytbdekdelieighab.W1 Go.Proofs.Ytbdekdelieighab.W2 Go.Proofs.Ytbdekdelieighab.W3 Go.Proofs.Ytbdekdelieighab.W5 Go.Proofs.Ytbdekdelieighab.W6 Go.Proofs.Ytbdekdelieighab.W7 Go.Proofs.Ytbdekdelieighab.W8 Go.Proofs.Ytbdekdelieighab.W9 Go.Proofs.Ytbdekdelieighab.W10 Go.Proofs.Ytbdekdelieighab.W11 Go.Proofs.Ytbdekdelieighab.W12 Go.Proofs.Ytbdekdelieighab.W13 Go.Proofs.Ytbdekdelieighab.W14 Go.Proofs.Ytbdekdelieighab.W15
open Go.Plain
set_option linter.unusedVariables false
set_option maxRecDepth 100000 in
theorem grow0_c (w : World) (k : Nat) (hk : k ≤ 4000000) : Calls Try.prog 62 #[.slice none (0) (0), .int .i64 (((k : Nat) : Int))] w (Ret fun rv w' => ∃ A2 c2, (True) ∧ rv = .slice A2 (0) (c2) ∧ New w w' [row 3 1 A2 (0) (c2) (cells fI ([]))]) := by
  refine fn_enter (args := [.slice none (0) (0), .int .i64 (((k : Nat) : Int))]) Try.func62 rfl Try.ntmps62 rfl (SS.start w) ?_
  refine cw_seq ?_
  refine cw_region ?_
  refine wl_v (ov_assign rfl) rfl rfl rfl ?_
  refine wl_nil ?_
  refine ce_then ?_
  refine cw_seq ?_
  refine cw_seq ?_
  refine cw_region ?_
  refine wl_v (ov_move rfl) rfl rfl rfl ?_
  refine wl_if (ov_lss rfl rfl) rfl rfl rfl (fun c6 => ?_) (fun c6 => ?_)
  ·
    exfalso; omega
  ·
    refine wl_nil ?_
    refine ce_then ?_
    refine cw_false rfl ?_
    refine cw_skip ?_
    refine ce_then ?_
    refine cw_seq ?_
    refine cw_seq ?_
    refine cw_region ?_
    refine wl_v (ov_move rfl) rfl rfl rfl ?_
    refine wl_v (ov_move rfl) rfl rfl rfl ?_
    refine wl_v (ov_cap (sliceI_spec sI22) rfl) rfl rfl rfl ?_
    refine wl_v (ov_move rfl) rfl rfl rfl ?_
    refine wl_v (ov_len (sliceI_spec sI22) rfl) rfl rfl rfl ?_
    refine wl_v (ov_sub (r := 0) rfl rfl (by decide) (by omega)) rfl rfl rfl ?_
    refine wl_v (ov_sub (r := ((k : Nat) : Int)) rfl rfl (by omega) (by omega)) rfl rfl rfl ?_
    refine wl_v (ov_assign rfl) rfl rfl rfl ?_
    refine wl_nil ?_
    refine ce_then ?_
    refine cw_seq ?_
    refine cw_region ?_
    refine wl_v (ov_move rfl) rfl rfl rfl ?_
    refine wl_if (ov_gtr rfl rfl) rfl rfl rfl (fun c16 => ?_) (fun c16 => ?_)
    ·
      refine wl_nil ?_
      refine ce_then ?_
      refine cw_true rfl ?_
      refine cw_region ?_
      refine wl_v (ov_move rfl) rfl rfl rfl ?_
      refine wl_v (ov_move rfl) rfl rfl rfl ?_
      refine wl_v (ov_cap (sliceI_spec sI22) rfl) rfl rfl rfl ?_
      refine wl_v (ov_slice_h (h := 0) sI22 tI3 rfl rfl (Nat.le_refl _)) rfl rfl rfl ?_
      refine wl_v (ov_move rfl) rfl rfl rfl ?_
      refine wl_r (or_appendz (k := k) sI22 tI3 uI3 rfl rfl (by omega) hk) rfl rfl (kt2p rfl (fun A22 c22 h22 => ?_))
      refine wl_v (ov_move rfl) rfl rfl rfl ?_
      refine wl_v (ov_len (sliceI_spec sI22) rfl) rfl rfl rfl ?_
      refine wl_v (ov_slice_h (h := 0) sI22 tI3 rfl rfl (Nat.zero_le _)) rfl rfl rfl ?_
      refine ct_first (k := 0) (.cons (.head) (.nil)) fI_len (Nat.zero_le _) ?_
      refine wl_v (ov_assign rfl) rfl rfl rfl ?_
      refine wl_nil ?_
      refine ce_then ?_
      refine cw_seq ?_
      refine cw_region ?_
      refine wl_v (ov_move rfl) rfl rfl rfl ?_
      refine wl_v (ov_assign rfl) rfl rfl rfl ?_
      refine wl_nil ?_
      refine ce_then ?_
      refine cw_ret ?_
      refine ce_results (v := .slice A22 (0) (c22)) (res1 rfl (rv_t rfl)) (fun w' hw => ?_)
      exact ⟨A22, c22, trivial, rfl, ((.cons (.head) (.nil) : Keep _ _).ss hw).to_new⟩
    ·
      refine ct_none fI 3 1 ?_
      refine wl_nil ?_
      refine ce_then ?_
      refine cw_false rfl ?_
      refine cw_skip ?_
      refine ce_then ?_
      refine cw_seq ?_
      refine cw_region ?_
      refine wl_v (ov_move rfl) rfl rfl rfl ?_
      refine wl_v (ov_assign rfl) rfl rfl rfl ?_
      refine wl_nil ?_
      refine ce_then ?_
      refine cw_ret ?_
      refine ce_results (v := .slice none (0) (0)) (res1 rfl (rv_t rfl)) (fun w' hw => ?_)
      exact ⟨none, 0, trivial, rfl, ((.cons (.head) (.nil) : Keep _ _).ss hw).to_new⟩
set_option maxRecDepth 100000 in
theorem concat_c (w : World) (A : Option Addr) (n : Nat) (c : Nat) (hs : List (Option Addr × Nat × Nat)) (xss : List (List Int)) (hA : At w A (cells fL hs)) (eA : hs.length = n) (lA : n ≤ c) (hi : ∀ i, i < xss.length → At w (hs.getD i (none, 0, 0)).1 (cells fI (xss.getD i [])) ∧ (xss.getD i []).length = (hs.getD i (none, 0, 0)).2.1 ∧ (hs.getD i (none, 0, 0)).2.1 ≤ (hs.getD i (none, 0, 0)).2.2) (hl : hs.length = xss.length) (hz : xss.length ≤ 10 ∧ xss.flatten.length ≤ 4000000) : Calls Try.prog 30 #[.slice A (n) (c)] w (Ret fun rv w' => ∃ A2 c2, (xss.flatten.length ≤ c2) ∧ rv = .slice A2 (xss.flatten.length) (c2) ∧ New w w' [row 3 1 A2 (xss.flatten.length) (c2) (cells fI xss.flatten)]) := by
  have oA := hA.atB
  subst eA
  have ohi := fun i hi2 => (hi i hi2).1.atB
  refine fn_enter (args := [.slice A (hs.length) (c)]) Try.func30 rfl Try.ntmps30 rfl (SS.start w) ?_
  refine cw_seq ?_
  refine cw_region ?_
  refine wl_v (ov_assign rfl) rfl rfl rfl ?_
  refine wl_nil ?_
  refine ce_then ?_
  refine cw_seq ?_
  refine cw_region ?_
  refine wl_v (ov_assign rfl) rfl rfl rfl ?_
  refine wl_nil ?_
  refine ce_then ?_
  refine cw_seq ?_
  refine cw_seq ?_
  refine cw_region ?_
  refine wl_v (ov_move rfl) rfl rfl rfl ?_
  refine wl_v (ov_len (sliceI_spec sI29) rfl) rfl rfl rfl ?_
  refine wl_v (ov_move rfl) rfl rfl rfl ?_
  refine wl_nil ?_
  refine ce_then ?_
  refine cw_block ?_
  refine cw_loop1 (fun (k : Nat) => [(0, .slice A (hs.length) (c)), (2, .slice none (0) (0)), (9, .slice A (hs.length) (c)), (10, .int .i64 (((hs.length : Nat) : Int))), (3, .int .i64 ((((xss.take k).flatten.length : Nat) : Int))), (11, .int .i64 (((k : Nat) : Int)))]) (fun (k : Nat) => []) (fun (k : Nat) => k ≤ hs.length) (fun (k : Nat) => hs.length - k) 0 (by omega) (.cons rfl (.cons rfl (.cons rfl (.cons rfl (.cons (congrArg (fun z => some (Value.int .i64 z)) (show 0 = (((xss.take 0).flatten.length : Nat) : Int) from (by simp))) (.cons (congrArg (fun z => some (Value.int .i64 z)) (show 0 = ((0 : Nat) : Int) by first | omega | rfl | (simp; done))) (.nil))))))) (.nil) ?_
  intro R0 k hk hR0
  have hf1 := flat_bd (xss := xss) k
  have hf2 := flat_bd (xss := xss) (k + 1)
  refine cw_seq ?_
  refine cw_region ?_
  refine wl_if (ov_lss rfl rfl) rfl rfl rfl (fun c12 => ?_) (fun c12 => ?_)
  ·
    refine wl_nil ?_
    refine ce_then ?_
    refine cw_seq ?_
    refine cw_true rfl ?_
    refine cw_skip ?_
    refine ce_then ?_
    refine cw_seq ?_
    refine cw_block ?_
    refine cw_seq ?_
    refine cw_region ?_
    refine wl_v (ov_index (k := k) (c := c) sI29 tI22 rfl rfl (some_holds (q := k * 1) (holds_old oA) (by rw [cells_length fL_len]; have hlt : k < hs.length := (by omega); omega)) (show k < hs.length from (by omega))) rfl rfl rfl ?_
    refine wl_v (ov_load tI22 (holds_old oA) rfl (get_fL (show k < hs.length from (by omega)))) rfl rfl rfl ?_
    refine wl_v (ov_assign rfl) rfl rfl rfl ?_
    refine wl_nil ?_
    refine ce_then ?_
    refine cw_seq ?_
    refine cw_region ?_
    refine wl_v (ov_move rfl) rfl rfl rfl ?_
    refine wl_v (ov_move rfl) rfl rfl rfl ?_
    refine wl_v (ov_len (sliceI_spec sI22) rfl) rfl rfl rfl ?_
    refine wl_v (ov_add (r := ((((xss.take k).flatten.length) + ((hs.getD k (none, 0, 0)).2.1) : Nat) : Int)) rfl rfl rfl (by have h9 := flat_step (xss := xss) (k := k) (by omega); have h8 := (hi k (by omega)).2.1; rw [h9, List.length_append] at hf2; omega)) rfl rfl rfl ?_
    refine wl_v (ov_assign rfl) rfl rfl rfl ?_
    refine wl_nil ?_
    refine ce_then ?_
    refine cw_seq ?_
    refine cw_region ?_
    refine wl_v (ov_move rfl) rfl rfl rfl ?_
    refine wl_if (ov_lss rfl rfl) rfl rfl rfl (fun c20 => ?_) (fun c20 => ?_)
    ·
      exfalso; omega
    ·
      refine wl_nil ?_
      refine ce_then ?_
      refine cw_false rfl ?_
      refine cw_skip ?_
      refine ce_block ?_
      refine ce_then ?_
      refine cw_region ?_
      refine wl_v (ov_add (r := ((k + 1 : Nat) : Int)) rfl rfl rfl (by omega)) rfl rfl rfl ?_
      refine wl_v (ov_move rfl) rfl rfl rfl ?_
      refine wl_nil ?_
      exact fun ac_ w_ hs_ => hR0 (k + 1) (by omega) (by omega) ac_ w_ (hs_.weaken (.cons rfl (.cons rfl (.cons rfl (.cons rfl (.cons (congrArg (fun z => some (Value.int .i64 z)) (show ((((xss.take k).flatten.length) + ((hs.getD k (none, 0, 0)).2.1) : Nat) : Int) = (((xss.take (k + 1)).flatten.length : Nat) : Int) from (by rw [flat_step (by omega), List.length_append, (hi k (by omega)).2.1]))) (.cons rfl (.nil))))))) (.nil))
  ·
    refine wl_nil ?_
    refine ce_then ?_
    refine cw_seq ?_
    refine cw_false rfl ?_
    refine cw_exit ?_
    refine ce_then_exit ?_
    refine ce_then_exit ?_
    refine ce_hit ?_
    refine ce_then ?_
    refine cw_seq ?_
    refine cw_region ?_
    refine wl_v (ov_move rfl) rfl rfl rfl ?_
    refine wl_r (or_call (fv := []) (vs := [.slice none (0) (0), .int .i64 ((((xss.take k).flatten.length : Nat) : Int))]) (cs := []) en62 rfl rfl (call_x2 (fun w hw => grow0_c w ((xss.take k).flatten.length) (by first | assumption | omega | (simp; omega))))) rfl rfl (kt2p rfl (fun A2_24 c2_24 h_24 => ?_))
    refine wl_v (ov_assign rfl) rfl rfl rfl ?_
    refine wl_nil ?_
    refine ce_then ?_
    refine cw_seq ?_
    refine cw_seq ?_
    refine cw_region ?_
    refine wl_v (ov_move rfl) rfl rfl rfl ?_
    refine wl_v (ov_len (sliceI_spec sI29) rfl) rfl rfl rfl ?_
    refine wl_v (ov_move rfl) rfl rfl rfl ?_
    refine wl_nil ?_
    refine ce_then ?_
    refine cw_block ?_
    refine cw_loop3 (fun (q : Nat) (A2 : Option Addr) (c2 : Nat) => [(2, .slice none (0) (0)), (25, .slice A (hs.length) (c)), (26, .int .i64 (((hs.length : Nat) : Int))), (6, .slice A2 ((xss.take q).flatten.length) (c2)), (27, .int .i64 (((q : Nat) : Int)))]) (fun (q : Nat) (A2 : Option Addr) (c2 : Nat) => [row 3 1 A2 ((xss.take q).flatten.length) (c2) (cells fI ((xss.take q).flatten))]) (fun (q : Nat) (A2 : Option Addr) (c2 : Nat) => q ≤ hs.length ∧ (xss.take q).flatten.length ≤ c2) (fun (q : Nat) (A2 : Option Addr) (c2 : Nat) => hs.length - q) 0 A2_24 c2_24 ⟨by omega, Nat.zero_le _⟩ (.cons rfl (.cons rfl (.cons rfl (.cons (congrArg (fun z => some (Value.slice A2_24 z c2_24)) (show 0 = ((xss.take 0).flatten.length) from rfl)) (.cons (congrArg (fun z => some (Value.int .i64 z)) (show 0 = ((0 : Nat) : Int) by first | omega | rfl | (simp; done))) (.nil)))))) (.consE (show row 3 1 A2_24 (0) (c2_24) (cells fI ([])) = row 3 1 A2_24 ((xss.take 0).flatten.length) (c2_24) (cells fI ((xss.take 0).flatten)) by rfl) (.head) (.nil)) ?_
    intro R1 q A2 c2 hk1 hR1
    obtain ⟨hq1, hq2⟩ := hk1
    have hf3 := flat_bd (xss := xss) q
    have hf4 := flat_bd (xss := xss) (q + 1)
    have hf5 : (hs.getD q (none, 0, 0)).2.1 ≤ 4000000 ∨ hs.length ≤ q := by by_cases hq : q < hs.length; left; have h9 := flat_step (xss := xss) (k := q) (by omega); have h8 := (hi q (by omega)).2.1; rw [h9, List.length_append] at hf4; omega; right; omega
    refine cw_seq ?_
    refine cw_region ?_
    refine wl_if (ov_lss rfl rfl) rfl rfl rfl (fun c28 => ?_) (fun c28 => ?_)
    ·
      refine wl_nil ?_
      refine ce_then ?_
      refine cw_seq ?_
      refine cw_true rfl ?_
      refine cw_skip ?_
      refine ce_then ?_
      refine cw_seq ?_
      refine cw_block ?_
      refine cw_seq ?_
      refine cw_region ?_
      refine wl_v (ov_index (k := q) (c := c) sI29 tI22 rfl rfl (some_holds (q := q * 1) (holds_old oA) (by rw [cells_length fL_len]; have hlt : q < hs.length := (by omega); omega)) (show q < hs.length from (by omega))) rfl rfl rfl ?_
      refine wl_v (ov_load tI22 (holds_old oA) rfl (get_fL (show q < hs.length from (by omega)))) rfl rfl rfl ?_
      refine wl_v (ov_assign rfl) rfl rfl rfl ?_
      refine wl_nil ?_
      refine ce_then ?_
      refine cw_region ?_
      refine wl_v (ov_move rfl) rfl rfl rfl ?_
      refine wl_v (ov_move rfl) rfl rfl rfl ?_
      refine wl_r (or_append (c2 := (hs.getD q (none, 0, 0)).2.2) sI22 tI3 rfl (by decide) rfl rfl (.head) (holds_old (ohi q (by omega))) ((by rw [cells_length fI_len, (hi q (by omega)).2.1])) (one_cells fI_one _) cells_append (by omega) (by omega)) rfl rfl (kt2p rfl (fun A33 c33 h33 => ?_))
      refine wl_v (ov_assign rfl) rfl rfl rfl ?_
      refine wl_nil ?_
      refine ce_block ?_
      refine ce_then ?_
      refine cw_region ?_
      refine wl_v (ov_add (r := ((q + 1 : Nat) : Int)) rfl rfl rfl (by omega)) rfl rfl rfl ?_
      refine wl_v (ov_move rfl) rfl rfl rfl ?_
      refine wl_nil ?_
      exact fun ac_ w_ hs_ => hR1 (q + 1) A33 c33 ⟨by omega, by rw [flat_step (by omega), List.length_append, (hi q (by omega)).2.1]; exact h33⟩ (by omega) ac_ w_ (hs_.weaken (.cons rfl (.cons rfl (.cons rfl (.cons (congrArg (fun z => some (Value.slice A33 z c33)) (show (((xss.take q).flatten.length) + ((hs.getD q (none, 0, 0)).2.1)) = ((xss.take (q + 1)).flatten.length) from (by rw [flat_step (by omega), List.length_append, (hi q (by omega)).2.1]))) (.cons rfl (.nil)))))) (.consE (show row 3 1 A33 (((xss.take q).flatten.length) + ((hs.getD q (none, 0, 0)).2.1)) (c33) (cells fI (((xss.take q).flatten) ++ (xss.getD q []))) = row 3 1 A33 ((xss.take (q + 1)).flatten.length) (c33) (cells fI ((xss.take (q + 1)).flatten)) by rw [flat_step (by omega)]; exact row_eq (by rw [List.length_append, (hi q (by omega)).2.1]) rfl) (.head) (.nil)))
    ·
      refine wl_nil ?_
      refine ce_then ?_
      refine cw_seq ?_
      refine cw_false rfl ?_
      refine cw_exit ?_
      refine ce_then_exit ?_
      refine ce_then_exit ?_
      refine ce_hit ?_
      refine ce_then ?_
      refine cw_seq ?_
      refine cw_region ?_
      refine wl_v (ov_move rfl) rfl rfl rfl ?_
      refine wl_v (ov_assign rfl) rfl rfl rfl ?_
      refine wl_nil ?_
      refine ce_then ?_
      refine cw_ret ?_
      refine ce_results (v := .slice A2 ((xss.take q).flatten.length) (c2)) (res1 rfl (rv_t rfl)) (fun w' hw => ?_)
      exact ⟨A2, c2, (by rw [List.take_of_length_le (show xss.length ≤ q by omega)] at hq2; exact hq2), (by rw [List.take_of_length_le (show xss.length ≤ q by omega)]), ((.consE (show row 3 1 A2 ((xss.take q).flatten.length) (c2) (cells fI ((xss.take q).flatten)) = row 3 1 A2 (xss.flatten.length) (c2) (cells fI xss.flatten) by rw [List.take_of_length_le (show xss.length ≤ q by omega)]) (.head) (.nil) : Keep _ _).ss hw).to_new⟩
set_option maxRecDepth 100000 in
theorem comp1_c (w : World) (m : Int) (g1 : Nat) (k : Int) (hg1 : At w (some ⟨g1, 0, none⟩) [.int .i64 (k)]) (hk : 0 ≤ k ∧ k ≤ 1000) : Calls Try.prog 33 #[.int .i64 (m), elp (some ⟨g1, 0, none⟩) (0)] w (Ret fun rv w' => rv = .bool (decide (m < k - 1)) ∧ New w w' []) := by
  have og1 := hg1.atB
  refine fn_enter (args := [.int .i64 (m), elp (some ⟨g1, 0, none⟩) (0)]) Try.func33 rfl Try.ntmps33 rfl (SS.start w) ?_
  refine cw_seq ?_
  refine cw_region ?_
  refine wl_v (ov_assign rfl) rfl rfl rfl ?_
  refine wl_nil ?_
  refine ce_then ?_
  refine cw_seq ?_
  refine cw_region ?_
  refine wl_v (ov_move rfl) rfl rfl rfl ?_
  refine wl_v (ov_load tI3 (holds_old og1) rfl rfl) rfl rfl rfl ?_
  refine wl_v (ov_sub (r := k - 1) rfl rfl rfl (by omega)) rfl rfl rfl ?_
  refine wl_if (ov_lss rfl rfl) rfl rfl rfl (fun c7 => ?_) (fun c7 => ?_)
  ·
    refine wl_v (ov_assign rfl) rfl rfl rfl ?_
    refine wl_nil ?_
    refine ce_then ?_
    refine cw_ret ?_
    refine ce_results (v := .bool true) (res1 rfl (rv_t rfl)) (fun w' hw => ?_)
    exact ⟨(by simp [c7]), (Keep.nil.ss hw).to_new⟩
  ·
    refine wl_v (ov_assign rfl) rfl rfl rfl ?_
    refine wl_nil ?_
    refine ce_then ?_
    refine cw_ret ?_
    refine ce_results (v := .bool false) (res1 rfl (rv_t rfl)) (fun w' hw => ?_)
    exact ⟨(by simp [c7]), (Keep.nil.ss hw).to_new⟩
set_option maxRecDepth 100000 in
theorem comp2_c (w : World) (m : Int) (g1 : Nat) (k : Int) (hg1 : At w (some ⟨g1, 0, none⟩) [.int .i64 (k)]) : Calls Try.prog 34 #[.int .i64 (m), elp (some ⟨g1, 0, none⟩) (0)] w (Ret fun rv w' => rv = .bool (decide (k < m)) ∧ New w w' []) := by
  have og1 := hg1.atB
  refine fn_enter (args := [.int .i64 (m), elp (some ⟨g1, 0, none⟩) (0)]) Try.func34 rfl Try.ntmps34 rfl (SS.start w) ?_
  refine cw_seq ?_
  refine cw_region ?_
  refine wl_v (ov_assign rfl) rfl rfl rfl ?_
  refine wl_nil ?_
  refine ce_then ?_
  refine cw_seq ?_
  refine cw_region ?_
  refine wl_v (ov_move rfl) rfl rfl rfl ?_
  refine wl_v (ov_load tI3 (holds_old og1) rfl rfl) rfl rfl rfl ?_
  refine wl_if (ov_gtr rfl rfl) rfl rfl rfl (fun c6 => ?_) (fun c6 => ?_)
  ·
    refine wl_v (ov_assign rfl) rfl rfl rfl ?_
    refine wl_nil ?_
    refine ce_then ?_
    refine cw_ret ?_
    refine ce_results (v := .bool true) (res1 rfl (rv_t rfl)) (fun w' hw => ?_)
    exact ⟨(by simp [c6]), (Keep.nil.ss hw).to_new⟩
  ·
    refine wl_v (ov_assign rfl) rfl rfl rfl ?_
    refine wl_nil ?_
    refine ce_then ?_
    refine cw_ret ?_
    refine ce_results (v := .bool false) (res1 rfl (rv_t rfl)) (fun w' hw => ?_)
    exact ⟨(by simp [c6]), (Keep.nil.ss hw).to_new⟩
set_option maxRecDepth 100000 in
theorem ComposeI_c (w : World) (A : Option Addr) (n : Nat) (c : Nat) (xs : List (Int)) (A2 : Option Addr) (n2 : Nat) (c2 : Nat) (ys : List (Int)) (A3 : Option Addr) (n3 : Nat) (c3 : Nat) (zs : List (Int)) (hA : At w A (cells fI xs)) (eA : xs.length = n) (lA : n ≤ c) (hA2 : At w A2 (cells fI ys)) (eA2 : ys.length = n2) (lA2 : n2 ≤ c2) (hA3 : At w A3 (cells fI zs)) (eA3 : zs.length = n3) (lA3 : n3 ≤ c3) (hs : xs.length ≤ 1048576 ∧ ys.length ≤ 1048576 ∧ zs.length ≤ 1048576) : Calls Try.prog 9 #[.slice A (n) (c), .slice A2 (n2) (c2), .slice A3 (n3) (c3)] w (Ret fun rv w' => ∃ A4 c4 c5, ((compV xs ys zs).1.length ≤ c4) ∧ rv = .tuple #[.slice A4 ((compV xs ys zs).1.length) (c4), .bool ((compV xs ys zs).2)] ∧ New w w' [row 3 1 A4 ((compV xs ys zs).1.length) (c5) (cells fI ((compV xs ys zs).1))]) := by
  have oA := hA.atB
  subst eA
  have oA2 := hA2.atB
  subst eA2
  have oA3 := hA3.atB
  subst eA3
  refine fn_enter (args := [.slice A (xs.length) (c), .slice A2 (ys.length) (c2), .slice A3 (zs.length) (c3)]) Try.func9 rfl Try.ntmps9 rfl (SS.start w) ?_
  refine cw_seq ?_
  refine cw_region ?_
  refine wl_v (ov_assign rfl) rfl rfl rfl ?_
  refine wl_v (ov_assign rfl) rfl rfl rfl ?_
  refine wl_nil ?_
  refine ce_then ?_
  refine cw_seq ?_
  refine cw_region ?_
  refine wl_v (ov_move rfl) rfl rfl rfl ?_
  refine wl_v (ov_len (sliceI_spec sI22) rfl) rfl rfl rfl ?_
  refine wl_r (or_alloc tI3 rfl) rfl rfl (kt1 rfl (fun g8 => ?_))
  refine wl_r0 (or_store_blk (vs := [.int .i64 (((xs.length : Nat) : Int))]) (cs' := [.int .i64 (((xs.length : Nat) : Int))]) (.head) tI3 rfl rfl rfl rfl (Nat.le_of_ble_eq_true rfl) rfl) rfl rfl (kn0 ?_)
  refine wl_nil ?_
  refine ce_then ?_
  refine cw_seq ?_
  refine cw_seq ?_
  refine cw_draw mixO [] (.cons (.head) (.nil)) rfl ?_
  refine wg_takep (i := 0) rfl (ov_move rfl) rfl rfl rfl (by kernel_rfl) (by kernel_rfl) (by kernel_rfl) rfl ?_
  refine wg_takep (i := 1) rfl (ov_move rfl) rfl rfl rfl (by kernel_rfl) (by kernel_rfl) (by kernel_rfl) rfl ?_
  refine wg_one (i := 2) (by kernel_rfl) ?_
  refine go_r rfl rfl rfl rfl (or_buildSlice (e := 22) (size := 1) (is := [0, 1]) (vs := [.slice A (xs.length) (c), .slice A2 (ys.length) (c2)]) (cs := cells fL ([(A, xs.length, c), (A2, ys.length, c2)])) rfl rfl rfl (by decide) (fun _ => by kernel_rfl)) (kt1 rfl (fun g18 => ?_))
  refine gk (.cons (.tail .head) (.nil)) ?_
  refine wg_one (i := 3) (by kernel_rfl) ?_
  refine go_r rfl rfl rfl rfl (or_call (fv := []) (vs := [.slice (some ⟨g18, 0, none⟩) (2) (2)]) (cs := []) en30 rfl rfl (call_x2 (fun w hw => concat_c w (some ⟨g18, 0, none⟩) 2 2 ([(A, xs.length, c), (A2, ys.length, c2)]) ([xs, ys]) ((holds_row (List.Mem.head _)) w hw) (by first | rfl | (simp; done) | (simp; omega)) (Nat.le_refl _) (heads2 (holds_old oA w hw) (holds_old oA2 w hw) rfl rfl lA lA2) rfl (by simp only [List.length_cons, List.length_nil, show [xs, ys].flatten = xs ++ ys from by simp, List.length_append]; omega)))) (kt2p rfl (fun A2_19 c2_19 h_19 => ?_))
  refine gk (.cons (.tail (.tail .head)) (.nil)) ?_
  refine wg_one (i := 4) (by kernel_rfl) ?_
  refine go_r rfl rfl rfl rfl (or_call (fv := []) (vs := [.slice A2_19 (([xs, ys]).flatten.length) (c2_19)]) (cs := []) en29 rfl rfl (call_v (fun w hw => IsGraphicI_c w A2_19 (([xs, ys]).flatten.length) c2_19 (([xs, ys]).flatten) ((holds_row (List.Mem.head _)) w hw) rfl h_19 (by rw [show [xs, ys].flatten = xs ++ ys from by simp, List.length_append]; omega)))) (kt_if rfl (fun c20 => ?_) (fun c20 => ?_))
  ·
    rw [show [xs, ys].flatten = xs ++ ys from by simp] at c20
    have hV := c20.1
    have hsx := small_l hV.small
    have hsy := small_r hV.small
    have hln := hV.1
    rw [List.length_append] at hln
    have hsq := sq_bd xs.length (by omega)
    have htx := total_bd hsx xs.length (Nat.le_refl _)
    have hty := total_bd hsy ys.length (Nat.le_refl _)
    rw [List.take_length] at htx hty
    refine gk (.cons (.tail (.tail .head)) (.nil)) ?_
    refine wg_takep (i := 5) rfl (ov_not rfl) rfl rfl rfl (by kernel_rfl) (by kernel_rfl) (by kernel_rfl) rfl ?_
    refine wg_takep (i := 6) rfl (ov_move rfl) rfl rfl rfl (by kernel_rfl) (by kernel_rfl) (by kernel_rfl) rfl ?_
    refine wg_take_go (i := 7) rfl rfl rfl (ov_move rfl) rfl (by kernel_rfl) (by kernel_rfl) (by kernel_rfl) (by kernel_rfl) ?_
    refine wg_one (i := 8) (by kernel_rfl) ?_
    refine go_rg rfl rfl rfl rfl (or_call (fv := []) (vs := [.slice A3 (zs.length) (c3)]) (cs := []) en29 rfl rfl (call_v (fun w hw => IsGraphicI_c w A3 zs.length c3 zs ((holds_old oA3) w hw) rfl lA3 (by first | assumption | omega | (simp; omega))))) (kt_if rfl (fun c24 => ?_) (fun c24 => ?_))
    ·
      have hzl := c24.1.1
      refine gk (.cons (.tail (.tail .head)) (.nil)) ?_
      refine wg_take_go (i := 9) rfl rfl rfl (ov_not rfl) rfl (by kernel_rfl) (by kernel_rfl) (by kernel_rfl) (by kernel_rfl) ?_
      refine wg_takep (i := 10) rfl (ov_pick_f rfl rfl) rfl rfl rfl (by kernel_rfl) (by kernel_rfl) (by kernel_rfl) rfl ?_
      refine wg_takep (i := 11) rfl (ov_move rfl) rfl rfl rfl (by kernel_rfl) (by kernel_rfl) (by kernel_rfl) rfl ?_
      refine wg_take_go (i := 12) rfl rfl rfl (ov_move rfl) rfl (by kernel_rfl) (by kernel_rfl) (by kernel_rfl) (by kernel_rfl) ?_
      refine wg_take_go (i := 14) rfl rfl rfl (ov_move rfl) rfl (by kernel_rfl) (by kernel_rfl) (by kernel_rfl) (by kernel_rfl) ?_
      refine wg_take_go (i := 16) rfl rfl rfl (ov_load tI3 (holds_blk (List.Mem.head _)) rfl rfl) rfl (by kernel_rfl) (by kernel_rfl) (by kernel_rfl) (by kernel_rfl) ?_
      refine wg_take_go (i := 17) rfl rfl rfl (ov_load tI3 (holds_blk (List.Mem.head _)) rfl rfl) rfl (by kernel_rfl) (by kernel_rfl) (by kernel_rfl) (by kernel_rfl) ?_
      refine wg_take_go (i := 18) rfl rfl rfl (ov_sub (r := ((xs.length : Nat) : Int) - 1) rfl rfl rfl (by omega)) rfl (by kernel_rfl) (by kernel_rfl) (by kernel_rfl) (by kernel_rfl) ?_
      refine wg_take_go (i := 19) rfl rfl rfl (ov_mul (r := ((xs.length : Nat) : Int) * (((xs.length : Nat) : Int) - 1)) rfl rfl rfl (by omega)) rfl (by kernel_rfl) (by kernel_rfl) (by kernel_rfl) (by kernel_rfl) ?_
      refine wg_one (i := 13) (by kernel_rfl) ?_
      refine go_rg rfl rfl rfl rfl (or_call (fv := []) (vs := [.slice A (xs.length) (c)]) (cs := []) en31 rfl rfl (call_v (fun w hw => sumI_c w A xs.length c xs ((holds_old oA) w hw) rfl lA hsx))) (kt0 rfl ?_)
      refine gk (.cons (.tail (.tail .head)) (.nil)) ?_
      refine wg_one (i := 15) (by kernel_rfl) ?_
      refine go_rg rfl rfl rfl rfl (or_call (fv := []) (vs := [.slice A2 (ys.length) (c2)]) (cs := []) en31 rfl rfl (call_v (fun w hw => sumI_c w A2 ys.length c2 ys ((holds_old oA2) w hw) rfl lA2 hsy))) (kt0 rfl ?_)
      refine gk (.cons (.tail (.tail .head)) (.nil)) ?_
      refine wg_take_go (i := 20) rfl rfl rfl (ov_add (r := (total ys) + (((xs.length : Nat) : Int) * (((xs.length : Nat) : Int) - 1))) rfl rfl rfl (by omega)) rfl (by kernel_rfl) (by kernel_rfl) (by kernel_rfl) (by kernel_rfl) ?_
      refine wg_take_go_if (i := 21) rfl rfl rfl (ov_neq rfl rfl) rfl (by kernel_rfl) (by kernel_rfl) (by kernel_rfl) (by kernel_rfl) (fun c37 => ?_) (fun c37 => ?_)
      ·
        have hv : compV xs ys zs = ([], false) := if_neg (fun h => c37 (by have := h.2.2.2.1; omega))
        refine wg_takep (i := 22) rfl (ov_pick_f rfl rfl) rfl rfl rfl (by kernel_rfl) (by kernel_rfl) (by kernel_rfl) rfl ?_
        refine wg_takep (i := 23) rfl (ov_move rfl) rfl rfl rfl (by kernel_rfl) (by kernel_rfl) (by kernel_rfl) rfl ?_
        refine wg_take_not (i := 24) rfl rfl rfl rfl rfl (by kernel_rfl) (by kernel_rfl) (by kernel_rfl) (by kernel_rfl) ?_
        refine wg_take_not (i := 25) rfl rfl rfl rfl rfl (by kernel_rfl) (by kernel_rfl) (by kernel_rfl) (by kernel_rfl) ?_
        refine wg_take_not (i := 26) rfl rfl rfl rfl rfl (by kernel_rfl) (by kernel_rfl) (by kernel_rfl) (by kernel_rfl) ?_
        refine wg_takep (i := 27) rfl (ov_pick_t rfl rfl) rfl rfl rfl (by kernel_rfl) (by kernel_rfl) (by kernel_rfl) rfl ?_
        refine wg_takep (i := 28) rfl (ov_move rfl) rfl rfl rfl (by kernel_rfl) (by kernel_rfl) (by kernel_rfl) rfl ?_
        refine wg_take_not (i := 29) rfl rfl rfl rfl rfl (by kernel_rfl) (by kernel_rfl) (by kernel_rfl) (by kernel_rfl) ?_
        refine wg_take_not (i := 30) rfl rfl rfl rfl rfl (by kernel_rfl) (by kernel_rfl) (by kernel_rfl) (by kernel_rfl) ?_
        refine wg_take_not (i := 31) rfl rfl rfl rfl rfl (by kernel_rfl) (by kernel_rfl) (by kernel_rfl) (by kernel_rfl) ?_
        refine wg_takep (i := 32) rfl (ov_pick_t rfl rfl) rfl rfl rfl (by kernel_rfl) (by kernel_rfl) (by kernel_rfl) rfl ?_
        refine wg_takep (i := 33) rfl (ov_move rfl) rfl rfl rfl (by kernel_rfl) (by kernel_rfl) (by kernel_rfl) rfl ?_
        refine wg_take_not (i := 34) rfl rfl rfl rfl rfl (by kernel_rfl) (by kernel_rfl) (by kernel_rfl) (by kernel_rfl) ?_
        refine wg_take_not (i := 35) rfl rfl rfl rfl rfl (by kernel_rfl) (by kernel_rfl) (by kernel_rfl) (by kernel_rfl) ?_
        refine wg_take_not (i := 36) rfl rfl rfl rfl rfl (by kernel_rfl) (by kernel_rfl) (by kernel_rfl) (by kernel_rfl) ?_
        refine wg_take_not (i := 37) rfl rfl rfl rfl rfl (by kernel_rfl) (by kernel_rfl) (by kernel_rfl) (by kernel_rfl) ?_
        refine wg_take_not (i := 38) rfl rfl rfl rfl rfl (by kernel_rfl) (by kernel_rfl) (by kernel_rfl) (by kernel_rfl) ?_
        refine wg_take_not (i := 39) rfl rfl rfl rfl rfl (by kernel_rfl) (by kernel_rfl) (by kernel_rfl) (by kernel_rfl) ?_
        refine wg_take_not (i := 40) rfl rfl rfl rfl rfl (by kernel_rfl) (by kernel_rfl) (by kernel_rfl) (by kernel_rfl) ?_
        refine wg_take_not (i := 41) rfl rfl rfl rfl rfl (by kernel_rfl) (by kernel_rfl) (by kernel_rfl) (by kernel_rfl) ?_
        refine wg_takep (i := 42) rfl (ov_pick_t rfl rfl) rfl rfl rfl (by kernel_rfl) (by kernel_rfl) (by kernel_rfl) rfl ?_
        refine wg_done (by kernel_rfl) ?_
        refine ce_then ?_
        refine cw_true rfl ?_
        refine cw_seq ?_
        refine ct_none fI 3 1 ?_
        refine cw_region ?_
        refine wl_v (ov_assign rfl) rfl rfl rfl ?_
        refine wl_v (ov_assign rfl) rfl rfl rfl ?_
        refine wl_nil ?_
        refine ce_then ?_
        refine cw_ret ?_
        refine ce_then_ret ?_
        refine ce_results (v := .tuple #[.slice none (0) (0), .bool false]) (res2 rfl (rv_t rfl) (rv_t rfl)) (fun w' hw => ?_)
        exact ⟨none, 0, 0, (by rw [hv]; exact Nat.le_refl _), (by rw [hv] <;> rfl), ((.consE (show row 3 1 none (0) (0) (cells fI ([])) = row 3 1 none ((compV xs ys zs).1.length) (0) (cells fI ((compV xs ys zs).1)) by rw [hv] <;> rfl) (.head) (.nil) : Keep _ _).ss hw).to_new⟩
      ·
        refine wg_takep (i := 22) rfl (ov_pick_f rfl rfl) rfl rfl rfl (by kernel_rfl) (by kernel_rfl) (by kernel_rfl) rfl ?_
        refine wg_takep (i := 23) rfl (ov_move rfl) rfl rfl rfl (by kernel_rfl) (by kernel_rfl) (by kernel_rfl) rfl ?_
        refine wg_take_go (i := 24) rfl rfl rfl (ov_move rfl) rfl (by kernel_rfl) (by kernel_rfl) (by kernel_rfl) (by kernel_rfl) ?_
        refine wg_take_go (i := 25) rfl rfl rfl (ov_makeFunc (vs := #[elp (some ⟨g8, 0, none⟩) (0)]) rfl) rfl (by kernel_rfl) (by kernel_rfl) (by kernel_rfl) (by kernel_rfl) ?_
        refine wg_one (i := 26) (by kernel_rfl) ?_
        refine go_rg rfl rfl rfl rfl (or_call (fv := []) (vs := [.slice A (xs.length) (c), .func (.func 33) #[] #[elp (some ⟨g8, 0, none⟩) (0)]]) (cs := []) en32 rfl rfl (call_v (fun w hw => containsFunc_c w A xs.length c xs 33 ([elp (some ⟨g8, 0, none⟩) (0)]) (fun x => decide (x < ((xs.length : Nat) : Int) - 1)) ((holds_old oA) w hw) rfl lA (by first | assumption | omega | (simp; omega)) en33 (fun x hx w' hb => comp1_c w' x g8 ((xs.length : Nat) : Int) ((holds_blk (List.Mem.tail _ (List.Mem.tail _ (List.Mem.head _)))) w' (hw.later hb)) (by omega))))) (kt_if rfl (fun c42 => ?_) (fun c42 => ?_))
        ·
          have hv : compV xs ys zs = ([], false) := if_neg (fun h => by obtain ⟨x, hx, hp⟩ := c42; simp only [decide_eq_true_eq] at hp; have := h.2.2.2.2.1 x hx; omega)
          refine gk (.cons (.tail (.tail .head)) (.nil)) ?_
          refine wg_takep (i := 27) rfl (ov_pick_f rfl rfl) rfl rfl rfl (by kernel_rfl) (by kernel_rfl) (by kernel_rfl) rfl ?_
          refine wg_takep (i := 28) rfl (ov_move rfl) rfl rfl rfl (by kernel_rfl) (by kernel_rfl) (by kernel_rfl) rfl ?_
          refine wg_take_not (i := 29) rfl rfl rfl rfl rfl (by kernel_rfl) (by kernel_rfl) (by kernel_rfl) (by kernel_rfl) ?_
          refine wg_take_not (i := 30) rfl rfl rfl rfl rfl (by kernel_rfl) (by kernel_rfl) (by kernel_rfl) (by kernel_rfl) ?_
          refine wg_take_not (i := 31) rfl rfl rfl rfl rfl (by kernel_rfl) (by kernel_rfl) (by kernel_rfl) (by kernel_rfl) ?_
          refine wg_takep (i := 32) rfl (ov_pick_t rfl rfl) rfl rfl rfl (by kernel_rfl) (by kernel_rfl) (by kernel_rfl) rfl ?_
          refine wg_takep (i := 33) rfl (ov_move rfl) rfl rfl rfl (by kernel_rfl) (by kernel_rfl) (by kernel_rfl) rfl ?_
          refine wg_take_not (i := 34) rfl rfl rfl rfl rfl (by kernel_rfl) (by kernel_rfl) (by kernel_rfl) (by kernel_rfl) ?_
          refine wg_take_not (i := 35) rfl rfl rfl rfl rfl (by kernel_rfl) (by kernel_rfl) (by kernel_rfl) (by kernel_rfl) ?_
          refine wg_take_not (i := 36) rfl rfl rfl rfl rfl (by kernel_rfl) (by kernel_rfl) (by kernel_rfl) (by kernel_rfl) ?_
          refine wg_take_not (i := 37) rfl rfl rfl rfl rfl (by kernel_rfl) (by kernel_rfl) (by kernel_rfl) (by kernel_rfl) ?_
          refine wg_take_not (i := 38) rfl rfl rfl rfl rfl (by kernel_rfl) (by kernel_rfl) (by kernel_rfl) (by kernel_rfl) ?_
          refine wg_take_not (i := 39) rfl rfl rfl rfl rfl (by kernel_rfl) (by kernel_rfl) (by kernel_rfl) (by kernel_rfl) ?_
          refine wg_take_not (i := 40) rfl rfl rfl rfl rfl (by kernel_rfl) (by kernel_rfl) (by kernel_rfl) (by kernel_rfl) ?_
          refine wg_take_not (i := 41) rfl rfl rfl rfl rfl (by kernel_rfl) (by kernel_rfl) (by kernel_rfl) (by kernel_rfl) ?_
          refine wg_takep (i := 42) rfl (ov_pick_t rfl rfl) rfl rfl rfl (by kernel_rfl) (by kernel_rfl) (by kernel_rfl) rfl ?_
          refine wg_done (by kernel_rfl) ?_
          refine ce_then ?_
          refine cw_true rfl ?_
          refine cw_seq ?_
          refine ct_none fI 3 1 ?_
          refine cw_region ?_
          refine wl_v (ov_assign rfl) rfl rfl rfl ?_
          refine wl_v (ov_assign rfl) rfl rfl rfl ?_
          refine wl_nil ?_
          refine ce_then ?_
          refine cw_ret ?_
          refine ce_then_ret ?_
          refine ce_results (v := .tuple #[.slice none (0) (0), .bool false]) (res2 rfl (rv_t rfl) (rv_t rfl)) (fun w' hw => ?_)
          exact ⟨none, 0, 0, (by rw [hv]; exact Nat.le_refl _), (by rw [hv] <;> rfl), ((.consE (show row 3 1 none (0) (0) (cells fI ([])) = row 3 1 none ((compV xs ys zs).1.length) (0) (cells fI ((compV xs ys zs).1)) by rw [hv] <;> rfl) (.head) (.nil) : Keep _ _).ss hw).to_new⟩
        ·
          refine gk (.cons (.tail (.tail .head)) (.nil)) ?_
          refine wg_takep (i := 27) rfl (ov_pick_f rfl rfl) rfl rfl rfl (by kernel_rfl) (by kernel_rfl) (by kernel_rfl) rfl ?_
          refine wg_takep (i := 28) rfl (ov_move rfl) rfl rfl rfl (by kernel_rfl) (by kernel_rfl) (by kernel_rfl) rfl ?_
          refine wg_take_go (i := 29) rfl rfl rfl (ov_move rfl) rfl (by kernel_rfl) (by kernel_rfl) (by kernel_rfl) (by kernel_rfl) ?_
          refine wg_take_go (i := 30) rfl rfl rfl (ov_makeFunc (vs := #[elp (some ⟨g8, 0, none⟩) (0)]) rfl) rfl (by kernel_rfl) (by kernel_rfl) (by kernel_rfl) (by kernel_rfl) ?_
          refine wg_one (i := 31) (by kernel_rfl) ?_
          refine go_rg rfl rfl rfl rfl (or_call (fv := []) (vs := [.slice A2 (ys.length) (c2), .func (.func 34) #[] #[elp (some ⟨g8, 0, none⟩) (0)]]) (cs := []) en32 rfl rfl (call_v (fun w hw => containsFunc_c w A2 ys.length c2 ys 34 ([elp (some ⟨g8, 0, none⟩) (0)]) (fun x => decide (((xs.length : Nat) : Int) < x)) ((holds_old oA2) w hw) rfl lA2 (by first | assumption | omega | (simp; omega)) en34 (fun x hx w' hb => comp2_c w' x g8 ((xs.length : Nat) : Int) ((holds_blk (List.Mem.tail _ (List.Mem.tail _ (List.Mem.head _)))) w' (hw.later hb)))))) (kt_if rfl (fun c47 => ?_) (fun c47 => ?_))
          ·
            have hv : compV xs ys zs = ([], false) := if_neg (fun h => by obtain ⟨x, hx, hp⟩ := c47; simp only [decide_eq_true_eq] at hp; have := h.2.2.2.2.2 x hx; omega)
            refine gk (.cons (.tail (.tail .head)) (.nil)) ?_
            refine wg_takep (i := 32) rfl (ov_pick_f rfl rfl) rfl rfl rfl (by kernel_rfl) (by kernel_rfl) (by kernel_rfl) rfl ?_
            refine wg_takep (i := 33) rfl (ov_move rfl) rfl rfl rfl (by kernel_rfl) (by kernel_rfl) (by kernel_rfl) rfl ?_
            refine wg_take_not (i := 34) rfl rfl rfl rfl rfl (by kernel_rfl) (by kernel_rfl) (by kernel_rfl) (by kernel_rfl) ?_
            refine wg_take_not (i := 35) rfl rfl rfl rfl rfl (by kernel_rfl) (by kernel_rfl) (by kernel_rfl) (by kernel_rfl) ?_
            refine wg_take_not (i := 36) rfl rfl rfl rfl rfl (by kernel_rfl) (by kernel_rfl) (by kernel_rfl) (by kernel_rfl) ?_
            refine wg_take_not (i := 37) rfl rfl rfl rfl rfl (by kernel_rfl) (by kernel_rfl) (by kernel_rfl) (by kernel_rfl) ?_
            refine wg_take_not (i := 38) rfl rfl rfl rfl rfl (by kernel_rfl) (by kernel_rfl) (by kernel_rfl) (by kernel_rfl) ?_
            refine wg_take_not (i := 39) rfl rfl rfl rfl rfl (by kernel_rfl) (by kernel_rfl) (by kernel_rfl) (by kernel_rfl) ?_
            refine wg_take_not (i := 40) rfl rfl rfl rfl rfl (by kernel_rfl) (by kernel_rfl) (by kernel_rfl) (by kernel_rfl) ?_
            refine wg_take_not (i := 41) rfl rfl rfl rfl rfl (by kernel_rfl) (by kernel_rfl) (by kernel_rfl) (by kernel_rfl) ?_
            refine wg_takep (i := 42) rfl (ov_pick_t rfl rfl) rfl rfl rfl (by kernel_rfl) (by kernel_rfl) (by kernel_rfl) rfl ?_
            refine wg_done (by kernel_rfl) ?_
            refine ce_then ?_
            refine cw_true rfl ?_
            refine cw_seq ?_
            refine ct_none fI 3 1 ?_
            refine cw_region ?_
            refine wl_v (ov_assign rfl) rfl rfl rfl ?_
            refine wl_v (ov_assign rfl) rfl rfl rfl ?_
            refine wl_nil ?_
            refine ce_then ?_
            refine cw_ret ?_
            refine ce_then_ret ?_
            refine ce_results (v := .tuple #[.slice none (0) (0), .bool false]) (res2 rfl (rv_t rfl) (rv_t rfl)) (fun w' hw => ?_)
            exact ⟨none, 0, 0, (by rw [hv]; exact Nat.le_refl _), (by rw [hv] <;> rfl), ((.consE (show row 3 1 none (0) (0) (cells fI ([])) = row 3 1 none ((compV xs ys zs).1.length) (0) (cells fI ((compV xs ys zs).1)) by rw [hv] <;> rfl) (.head) (.nil) : Keep _ _).ss hw).to_new⟩
          ·
            refine gk (.cons (.tail (.tail .head)) (.nil)) ?_
            refine wg_takep (i := 32) rfl (ov_pick_f rfl rfl) rfl rfl rfl (by kernel_rfl) (by kernel_rfl) (by kernel_rfl) rfl ?_
            refine wg_takep (i := 33) rfl (ov_move rfl) rfl rfl rfl (by kernel_rfl) (by kernel_rfl) (by kernel_rfl) rfl ?_
            refine wg_take_go (i := 34) rfl rfl rfl (ov_load tI3 (holds_blk (List.Mem.head _)) rfl rfl) rfl (by kernel_rfl) (by kernel_rfl) (by kernel_rfl) (by kernel_rfl) ?_
            refine wg_take_go (i := 35) rfl rfl rfl (ov_move rfl) rfl (by kernel_rfl) (by kernel_rfl) (by kernel_rfl) (by kernel_rfl) ?_
            refine wg_take_go (i := 36) rfl rfl rfl (ov_len (sliceI_spec sI22) rfl) rfl (by kernel_rfl) (by kernel_rfl) (by kernel_rfl) (by kernel_rfl) ?_
            refine wg_take_go (i := 37) rfl rfl rfl (ov_add (r := ((xs.length + ys.length : Nat) : Int)) rfl rfl rfl (by omega)) rfl (by kernel_rfl) (by kernel_rfl) (by kernel_rfl) (by kernel_rfl) ?_
            refine wg_take_go (i := 38) rfl rfl rfl (ov_move rfl) rfl (by kernel_rfl) (by kernel_rfl) (by kernel_rfl) (by kernel_rfl) ?_
            refine wg_take_go (i := 39) rfl rfl rfl (ov_len (sliceI_spec sI22) rfl) rfl (by kernel_rfl) (by kernel_rfl) (by kernel_rfl) (by kernel_rfl) ?_
            refine wg_take_go (i := 40) rfl rfl rfl (ov_add (r := (((xs.length + ys.length) + zs.length : Nat) : Int)) rfl rfl rfl (by omega)) rfl (by kernel_rfl) (by kernel_rfl) (by kernel_rfl) (by kernel_rfl) ?_
            refine wg_take_go_if (i := 41) rfl rfl rfl (ov_gtr rfl rfl) rfl (by kernel_rfl) (by kernel_rfl) (by kernel_rfl) (by kernel_rfl) (fun c57 => ?_) (fun c57 => ?_)
            ·
              have hv : compV xs ys zs = ([], false) := if_neg (fun h => by have := h.2.2.1; omega)
              refine wg_takep (i := 42) rfl (ov_pick_f rfl rfl) rfl rfl rfl (by kernel_rfl) (by kernel_rfl) (by kernel_rfl) rfl ?_
              refine wg_done (by kernel_rfl) ?_
              refine ce_then ?_
              refine cw_true rfl ?_
              refine cw_seq ?_
              refine ct_none fI 3 1 ?_
              refine cw_region ?_
              refine wl_v (ov_assign rfl) rfl rfl rfl ?_
              refine wl_v (ov_assign rfl) rfl rfl rfl ?_
              refine wl_nil ?_
              refine ce_then ?_
              refine cw_ret ?_
              refine ce_then_ret ?_
              refine ce_results (v := .tuple #[.slice none (0) (0), .bool false]) (res2 rfl (rv_t rfl) (rv_t rfl)) (fun w' hw => ?_)
              exact ⟨none, 0, 0, (by rw [hv]; exact Nat.le_refl _), (by rw [hv] <;> rfl), ((.consE (show row 3 1 none (0) (0) (cells fI ([])) = row 3 1 none ((compV xs ys zs).1.length) (0) (cells fI ((compV xs ys zs).1)) by rw [hv] <;> rfl) (.head) (.nil) : Keep _ _).ss hw).to_new⟩
            ·
              have hv : compV xs ys zs = (compL xs ys zs, true) := if_pos ⟨c20, c24, by omega, by omega, fun x hx => by by_cases hp : x < ((xs.length : Nat) : Int) - 1; exact absurd ⟨x, hx, by simp only [decide_eq_true_eq]; exact hp⟩ c42; omega, fun x hx => by by_cases hp : ((xs.length : Nat) : Int) < x; exact absurd ⟨x, hx, by simp only [decide_eq_true_eq]; exact hp⟩ c47; omega⟩
              have hvl : (compV xs ys zs).1.length = xs.length + zs.length + ys.length := by rw [hv]; exact compL_length _ _ _
              refine wg_takep (i := 42) rfl (ov_pick_f rfl rfl) rfl rfl rfl (by kernel_rfl) (by kernel_rfl) (by kernel_rfl) rfl ?_
              refine wg_done (by kernel_rfl) ?_
              refine ce_then ?_
              refine cw_false rfl ?_
              refine cw_skip ?_
              refine ce_then ?_
              refine cw_seq ?_
              refine cw_region ?_
              refine wl_v (ov_assign rfl) rfl rfl rfl ?_
              refine wl_nil ?_
              refine ce_then ?_
              refine cw_seq ?_
              refine cw_seq ?_
              refine ct_none fI 3 1 ?_
              refine cw_region ?_
              refine wl_v (ov_move rfl) rfl rfl rfl ?_
              refine wl_v (ov_len (sliceI_spec sI22) rfl) rfl rfl rfl ?_
              refine wl_v (ov_move rfl) rfl rfl rfl ?_
              refine wl_nil ?_
              refine ce_then ?_
              refine cw_block ?_
              refine cw_loop3 (fun (k : Nat) (A4 : Option Addr) (c4 : Nat) => [(1, .slice A2 (ys.length) (c2)), (2, .slice A3 (zs.length) (c3)), (6, .slice none (0) (0)), (7, .bool false), (8, elp (some ⟨g8, 0, none⟩) (0)), (59, .slice A (xs.length) (c)), (60, .int .i64 (((xs.length : Nat) : Int))), (9, .slice A4 (k) (c4)), (61, .int .i64 (((k : Nat) : Int)))]) (fun (k : Nat) (A4 : Option Addr) (c4 : Nat) => [row 3 1 A4 (k) (c4) (cells fI (upBy zs.length (xs.take k))), row 3 1 A2_19 (([xs, ys]).flatten.length) (c2_19) (cells fI (([xs, ys]).flatten)), row 22 1 (some ⟨g18, 0, none⟩) (2) (2) (cells fL ([(A, xs.length, c), (A2, ys.length, c2)])), blk g8 [.int .i64 (((xs.length : Nat) : Int))] 3]) (fun (k : Nat) (A4 : Option Addr) (c4 : Nat) => k ≤ xs.length ∧ k ≤ c4) (fun (k : Nat) (A4 : Option Addr) (c4 : Nat) => xs.length - k) 0 none 0 ⟨by omega, Nat.le_refl _⟩ (.cons rfl (.cons rfl (.cons rfl (.cons rfl (.cons rfl (.cons rfl (.cons rfl (.cons rfl (.cons (congrArg (fun z => some (Value.int .i64 z)) (show 0 = ((0 : Nat) : Int) by first | omega | rfl | (simp; done))) (.nil)))))))))) (.consE (show row 3 1 none (0) (0) (cells fI ([])) = row 3 1 none (0) (0) (cells fI (upBy zs.length (xs.take 0))) by rfl) (.head) (.cons (.head) (.cons (.head) (.cons (.head) (.nil))))) ?_
              intro R0 k A4 c4 hk hR0
              obtain ⟨hk1, hk2⟩ := hk
              refine cw_seq ?_
              refine cw_region ?_
              refine wl_if (ov_lss rfl rfl) rfl rfl rfl (fun c62 => ?_) (fun c62 => ?_)
              ·
                refine wl_nil ?_
                refine ce_then ?_
                refine cw_seq ?_
                refine cw_true rfl ?_
                refine cw_skip ?_
                refine ce_then ?_
                refine cw_seq ?_
                refine cw_block ?_
                refine cw_seq ?_
                refine cw_region ?_
                refine wl_v (ov_index (k := k) (c := c) sI22 tI3 rfl rfl (some_holds (q := k * 1) (holds_old oA) (by rw [cells_length fI_len]; have hlt : k < xs.length := (by omega); omega)) (show k < xs.length from (by omega))) rfl rfl rfl ?_
                refine wl_v (ov_load tI3 (holds_old oA) rfl (get_fI (show k < xs.length from (by omega)))) rfl rfl rfl ?_
                have hx := hsx.at_ (k := k) (by omega)
                refine wl_v (ov_assign rfl) rfl rfl rfl ?_
                refine wl_nil ?_
                refine ce_then ?_
                refine cw_region ?_
                refine wl_v (ov_move rfl) rfl rfl rfl ?_
                refine wl_v (ov_move rfl) rfl rfl rfl ?_
                refine wl_v (ov_move rfl) rfl rfl rfl ?_
                refine wl_v (ov_len (sliceI_spec sI22) rfl) rfl rfl rfl ?_
                refine wl_v (ov_add (r := (xs.getD k 0) + ((zs.length : Nat) : Int)) rfl rfl rfl (by omega)) rfl rfl rfl ?_
                refine wl_r (or_buildSlice (e := 3) (size := 1) (is := [0]) (vs := [.int .i64 ((xs.getD k 0) + ((zs.length : Nat) : Int))]) (cs := cells fI ([(xs.getD k 0) + ((zs.length : Nat) : Int)])) rfl rfl rfl (by decide) (fun _ => by kernel_rfl)) rfl rfl (kt1 rfl (fun g70 => ?_))
                refine wl_r (or_append (c2 := 1) sI22 tI3 rfl (by decide) rfl rfl (.tail .head) (holds_row (List.Mem.head _)) (by rw [cells_length fI_len]; try simp) (one_cells fI_one _) cells_append (by omega) (by omega)) rfl rfl (kt2p rfl (fun A71 c71 h71 => ?_))
                refine wl_v (ov_assign rfl) rfl rfl rfl ?_
                refine wl_nil ?_
                refine ce_block ?_
                refine ce_then ?_
                refine cw_region ?_
                refine wl_v (ov_add (r := ((k + 1 : Nat) : Int)) rfl rfl rfl (by omega)) rfl rfl rfl ?_
                refine wl_v (ov_move rfl) rfl rfl rfl ?_
                refine wl_nil ?_
                exact fun ac_ w_ hs_ => hR0 (k + 1) A71 c71 ⟨by omega, h71⟩ (by omega) ac_ w_ (hs_.weaken (.cons rfl (.cons rfl (.cons rfl (.cons rfl (.cons rfl (.cons rfl (.cons rfl (.cons rfl (.cons rfl (.nil)))))))))) (.consE (show row 3 1 A71 (k + 1) (c71) (cells fI ((upBy zs.length (xs.take k)) ++ ([(xs.getD k 0) + ((zs.length : Nat) : Int)]))) = row 3 1 A71 ((k + 1)) (c71) (cells fI (upBy zs.length (xs.take (k + 1)))) by rw [upBy_take (by omega)] <;> rfl) (.head) (.cons (.tail .head) (.cons (.tail .head) (.cons (.tail .head) (.nil))))))
              ·
                refine wl_nil ?_
                refine ce_then ?_
                refine cw_seq ?_
                refine cw_false rfl ?_
                refine cw_exit ?_
                refine ce_then_exit ?_
                refine ce_then_exit ?_
                refine ce_hit ?_
                refine ce_then ?_
                refine cw_seq ?_
                refine cw_seq ?_
                refine cw_region ?_
                refine wl_v (ov_move rfl) rfl rfl rfl ?_
                refine wl_v (ov_len (sliceI_spec sI22) rfl) rfl rfl rfl ?_
                refine wl_v (ov_move rfl) rfl rfl rfl ?_
                refine wl_nil ?_
                refine ce_then ?_
                refine cw_block ?_
                refine cw_loop3 (fun (q : Nat) (A5 : Option Addr) (c6 : Nat) => [(1, .slice A2 (ys.length) (c2)), (6, .slice none (0) (0)), (7, .bool false), (8, elp (some ⟨g8, 0, none⟩) (0)), (73, .slice A3 (zs.length) (c3)), (74, .int .i64 (((zs.length : Nat) : Int))), (9, .slice A5 (xs.length + q) (c6)), (75, .int .i64 (((q : Nat) : Int)))]) (fun (q : Nat) (A5 : Option Addr) (c6 : Nat) => [row 3 1 A5 (xs.length + q) (c6) (cells fI (upBy zs.length xs ++ upBy xs.length (zs.take q))), row 3 1 A2_19 (([xs, ys]).flatten.length) (c2_19) (cells fI (([xs, ys]).flatten)), row 22 1 (some ⟨g18, 0, none⟩) (2) (2) (cells fL ([(A, xs.length, c), (A2, ys.length, c2)])), blk g8 [.int .i64 (((xs.length : Nat) : Int))] 3]) (fun (q : Nat) (A5 : Option Addr) (c6 : Nat) => q ≤ zs.length ∧ xs.length + q ≤ c6) (fun (q : Nat) (A5 : Option Addr) (c6 : Nat) => zs.length - q) 0 A4 c4 ⟨by omega, by omega⟩ (.cons rfl (.cons rfl (.cons rfl (.cons rfl (.cons rfl (.cons rfl (.cons (congrArg (fun z => some (Value.slice A4 z c4)) (show k = (xs.length + 0) from (by omega))) (.cons (congrArg (fun z => some (Value.int .i64 z)) (show 0 = ((0 : Nat) : Int) by first | omega | rfl | (simp; done))) (.nil))))))))) (.consE (show row 3 1 A4 (k) (c4) (cells fI (upBy zs.length (xs.take k))) = row 3 1 A4 (xs.length + 0) (c4) (cells fI (upBy zs.length xs ++ upBy xs.length (zs.take 0))) by rw [List.take_of_length_le (show xs.length ≤ k by omega), show k = xs.length from by omega]; simp [upBy]) (.head) (.cons (.head) (.cons (.head) (.cons (.head) (.nil))))) ?_
                intro R1 q A5 c6 hk1 hR1
                obtain ⟨hq1, hq2⟩ := hk1
                refine cw_seq ?_
                refine cw_region ?_
                refine wl_if (ov_lss rfl rfl) rfl rfl rfl (fun c76 => ?_) (fun c76 => ?_)
                ·
                  refine wl_nil ?_
                  refine ce_then ?_
                  refine cw_seq ?_
                  refine cw_true rfl ?_
                  refine cw_skip ?_
                  refine ce_then ?_
                  refine cw_seq ?_
                  refine cw_block ?_
                  refine cw_seq ?_
                  refine cw_region ?_
                  refine wl_v (ov_index (k := q) (c := c3) sI22 tI3 rfl rfl (some_holds (q := q * 1) (holds_old oA3) (by rw [cells_length fI_len]; have hlt : q < zs.length := (by omega); omega)) (show q < zs.length from (by omega))) rfl rfl rfl ?_
                  refine wl_v (ov_load tI3 (holds_old oA3) rfl (get_fI (show q < zs.length from (by omega)))) rfl rfl rfl ?_
                  have hz := c24.1.small.at_ (k := q) (by omega)
                  refine wl_v (ov_assign rfl) rfl rfl rfl ?_
                  refine wl_nil ?_
                  refine ce_then ?_
                  refine cw_region ?_
                  refine wl_v (ov_move rfl) rfl rfl rfl ?_
                  refine wl_v (ov_move rfl) rfl rfl rfl ?_
                  refine wl_v (ov_load tI3 (holds_blk (List.Mem.tail _ (List.Mem.tail _ (List.Mem.tail _ (List.Mem.head _))))) rfl rfl) rfl rfl rfl ?_
                  refine wl_v (ov_add (r := (zs.getD q 0) + ((xs.length : Nat) : Int)) rfl rfl rfl (by omega)) rfl rfl rfl ?_
                  refine wl_r (or_buildSlice (e := 3) (size := 1) (is := [0]) (vs := [.int .i64 ((zs.getD q 0) + ((xs.length : Nat) : Int))]) (cs := cells fI ([(zs.getD q 0) + ((xs.length : Nat) : Int)])) rfl rfl rfl (by decide) (fun _ => by kernel_rfl)) rfl rfl (kt1 rfl (fun g83 => ?_))
                  refine wl_r (or_append (c2 := 1) sI22 tI3 rfl (by decide) rfl rfl (.tail .head) (holds_row (List.Mem.head _)) (by rw [cells_length fI_len]; try simp) (one_cells fI_one _) cells_append (by omega) (by omega)) rfl rfl (kt2p rfl (fun A84 c84 h84 => ?_))
                  refine wl_v (ov_assign rfl) rfl rfl rfl ?_
                  refine wl_nil ?_
                  refine ce_block ?_
                  refine ce_then ?_
                  refine cw_region ?_
                  refine wl_v (ov_add (r := ((q + 1 : Nat) : Int)) rfl rfl rfl (by omega)) rfl rfl rfl ?_
                  refine wl_v (ov_move rfl) rfl rfl rfl ?_
                  refine wl_nil ?_
                  exact fun ac_ w_ hs_ => hR1 (q + 1) A84 c84 ⟨by omega, by omega⟩ (by omega) ac_ w_ (hs_.weaken (.cons rfl (.cons rfl (.cons rfl (.cons rfl (.cons rfl (.cons rfl (.cons (congrArg (fun z => some (Value.slice A84 z c84)) (show ((xs.length + q) + 1) = (xs.length + (q + 1)) from (by omega))) (.cons rfl (.nil))))))))) (.consE (show row 3 1 A84 ((xs.length + q) + 1) (c84) (cells fI ((upBy zs.length xs ++ upBy xs.length (zs.take q)) ++ ([(zs.getD q 0) + ((xs.length : Nat) : Int)]))) = row 3 1 A84 (xs.length + (q + 1)) (c84) (cells fI (upBy zs.length xs ++ upBy xs.length (zs.take (q + 1)))) by rw [upBy_take (by omega), ← List.append_assoc]; exact row_eq (by omega) rfl) (.head) (.cons (.tail .head) (.cons (.tail .head) (.cons (.tail .head) (.nil))))))
                ·
                  refine wl_nil ?_
                  refine ce_then ?_
                  refine cw_seq ?_
                  refine cw_false rfl ?_
                  refine cw_exit ?_
                  refine ce_then_exit ?_
                  refine ce_then_exit ?_
                  refine ce_hit ?_
                  refine ce_then ?_
                  refine cw_seq ?_
                  refine cw_region ?_
                  refine wl_v (ov_move rfl) rfl rfl rfl ?_
                  refine wl_v (ov_move rfl) rfl rfl rfl ?_
                  refine wl_r (or_append (c2 := c2) sI22 tI3 rfl (by decide) rfl rfl (.head) (holds_old oA2) ((by rw [cells_length fI_len])) (one_cells fI_one _) cells_append (by omega) (by omega)) rfl rfl (kt2p rfl (fun A88 c88 h88 => ?_))
                  refine wl_r (or_call (fv := []) (vs := [.slice A88 ((xs.length + q) + ys.length) (c88)]) (cs := []) en35 rfl rfl (call_x2 (fun w hw => cloneC_c w A88 ((xs.length + q) + ys.length) c88 ((upBy zs.length xs ++ upBy xs.length (zs.take q)) ++ ys) ((holds_row (List.Mem.head _)) w hw) (by rw [List.length_append, List.length_append, upBy_length, upBy_length, List.length_take]; omega) h88 (by rw [List.length_append, List.length_append, upBy_length, upBy_length, List.length_take]; omega)))) rfl rfl (kt2p rfl (fun A2_89 c2_89 h_89 => ?_))
                  refine wl_v (ov_assign rfl) rfl rfl rfl ?_
                  refine wl_v (ov_assign rfl) rfl rfl rfl ?_
                  refine wl_nil ?_
                  refine ce_then ?_
                  refine cw_ret ?_
                  refine ce_results (v := .tuple #[.slice A2_89 (((xs.length + q) + ys.length)) (((xs.length + q) + ys.length)), .bool true]) (res2 rfl (rv_t rfl) (rv_t rfl)) (fun w' hw => ?_)
                  exact ⟨A2_89, _, c2_89, (Nat.le_refl _), (by rw [hvl, hv, show q = zs.length from by omega]), ((.consE (show row 3 1 A2_89 (((xs.length + q) + ys.length)) (c2_89) (cells fI ((upBy zs.length xs ++ upBy xs.length (zs.take q)) ++ ys)) = row 3 1 A2_89 ((compV xs ys zs).1.length) (c2_89) (cells fI ((compV xs ys zs).1)) by rw [hvl, hv, List.take_of_length_le (show zs.length ≤ q by omega), show q = zs.length from by omega] <;> rfl) (.head) (.nil) : Keep _ _).ss hw).to_new⟩
    ·
      have hv : compV xs ys zs = ([], false) := if_neg (fun h => c24 h.2.1)
      refine gk (.cons (.tail (.tail .head)) (.nil)) ?_
      refine wg_take_go (i := 9) rfl rfl rfl (ov_not rfl) rfl (by kernel_rfl) (by kernel_rfl) (by kernel_rfl) (by kernel_rfl) ?_
      refine wg_takep (i := 10) rfl (ov_pick_f rfl rfl) rfl rfl rfl (by kernel_rfl) (by kernel_rfl) (by kernel_rfl) rfl ?_
      refine wg_takep (i := 11) rfl (ov_move rfl) rfl rfl rfl (by kernel_rfl) (by kernel_rfl) (by kernel_rfl) rfl ?_
      refine wg_take_not (i := 12) rfl rfl rfl rfl rfl (by kernel_rfl) (by kernel_rfl) (by kernel_rfl) (by kernel_rfl) ?_
      refine wg_take_not (i := 13) rfl rfl rfl rfl rfl (by kernel_rfl) (by kernel_rfl) (by kernel_rfl) (by kernel_rfl) ?_
      refine wg_take_not (i := 14) rfl rfl rfl rfl rfl (by kernel_rfl) (by kernel_rfl) (by kernel_rfl) (by kernel_rfl) ?_
      refine wg_take_not (i := 15) rfl rfl rfl rfl rfl (by kernel_rfl) (by kernel_rfl) (by kernel_rfl) (by kernel_rfl) ?_
      refine wg_take_not (i := 16) rfl rfl rfl rfl rfl (by kernel_rfl) (by kernel_rfl) (by kernel_rfl) (by kernel_rfl) ?_
      refine wg_take_not (i := 17) rfl rfl rfl rfl rfl (by kernel_rfl) (by kernel_rfl) (by kernel_rfl) (by kernel_rfl) ?_
      refine wg_take_not (i := 18) rfl rfl rfl rfl rfl (by kernel_rfl) (by kernel_rfl) (by kernel_rfl) (by kernel_rfl) ?_
      refine wg_take_not (i := 19) rfl rfl rfl rfl rfl (by kernel_rfl) (by kernel_rfl) (by kernel_rfl) (by kernel_rfl) ?_
      refine wg_take_not (i := 20) rfl rfl rfl rfl rfl (by kernel_rfl) (by kernel_rfl) (by kernel_rfl) (by kernel_rfl) ?_
      refine wg_take_not (i := 21) rfl rfl rfl rfl rfl (by kernel_rfl) (by kernel_rfl) (by kernel_rfl) (by kernel_rfl) ?_
      refine wg_takep (i := 22) rfl (ov_pick_t rfl rfl) rfl rfl rfl (by kernel_rfl) (by kernel_rfl) (by kernel_rfl) rfl ?_
      refine wg_takep (i := 23) rfl (ov_move rfl) rfl rfl rfl (by kernel_rfl) (by kernel_rfl) (by kernel_rfl) rfl ?_
      refine wg_take_not (i := 24) rfl rfl rfl rfl rfl (by kernel_rfl) (by kernel_rfl) (by kernel_rfl) (by kernel_rfl) ?_
      refine wg_take_not (i := 25) rfl rfl rfl rfl rfl (by kernel_rfl) (by kernel_rfl) (by kernel_rfl) (by kernel_rfl) ?_
      refine wg_take_not (i := 26) rfl rfl rfl rfl rfl (by kernel_rfl) (by kernel_rfl) (by kernel_rfl) (by kernel_rfl) ?_
      refine wg_takep (i := 27) rfl (ov_pick_t rfl rfl) rfl rfl rfl (by kernel_rfl) (by kernel_rfl) (by kernel_rfl) rfl ?_
      refine wg_takep (i := 28) rfl (ov_move rfl) rfl rfl rfl (by kernel_rfl) (by kernel_rfl) (by kernel_rfl) rfl ?_
      refine wg_take_not (i := 29) rfl rfl rfl rfl rfl (by kernel_rfl) (by kernel_rfl) (by kernel_rfl) (by kernel_rfl) ?_
      refine wg_take_not (i := 30) rfl rfl rfl rfl rfl (by kernel_rfl) (by kernel_rfl) (by kernel_rfl) (by kernel_rfl) ?_
      refine wg_take_not (i := 31) rfl rfl rfl rfl rfl (by kernel_rfl) (by kernel_rfl) (by kernel_rfl) (by kernel_rfl) ?_
      refine wg_takep (i := 32) rfl (ov_pick_t rfl rfl) rfl rfl rfl (by kernel_rfl) (by kernel_rfl) (by kernel_rfl) rfl ?_
      refine wg_takep (i := 33) rfl (ov_move rfl) rfl rfl rfl (by kernel_rfl) (by kernel_rfl) (by kernel_rfl) rfl ?_
      refine wg_take_not (i := 34) rfl rfl rfl rfl rfl (by kernel_rfl) (by kernel_rfl) (by kernel_rfl) (by kernel_rfl) ?_
      refine wg_take_not (i := 35) rfl rfl rfl rfl rfl (by kernel_rfl) (by kernel_rfl) (by kernel_rfl) (by kernel_rfl) ?_
      refine wg_take_not (i := 36) rfl rfl rfl rfl rfl (by kernel_rfl) (by kernel_rfl) (by kernel_rfl) (by kernel_rfl) ?_
      refine wg_take_not (i := 37) rfl rfl rfl rfl rfl (by kernel_rfl) (by kernel_rfl) (by kernel_rfl) (by kernel_rfl) ?_
      refine wg_take_not (i := 38) rfl rfl rfl rfl rfl (by kernel_rfl) (by kernel_rfl) (by kernel_rfl) (by kernel_rfl) ?_
      refine wg_take_not (i := 39) rfl rfl rfl rfl rfl (by kernel_rfl) (by kernel_rfl) (by kernel_rfl) (by kernel_rfl) ?_
      refine wg_take_not (i := 40) rfl rfl rfl rfl rfl (by kernel_rfl) (by kernel_rfl) (by kernel_rfl) (by kernel_rfl) ?_
      refine wg_take_not (i := 41) rfl rfl rfl rfl rfl (by kernel_rfl) (by kernel_rfl) (by kernel_rfl) (by kernel_rfl) ?_
      refine wg_takep (i := 42) rfl (ov_pick_t rfl rfl) rfl rfl rfl (by kernel_rfl) (by kernel_rfl) (by kernel_rfl) rfl ?_
      refine wg_done (by kernel_rfl) ?_
      refine ce_then ?_
      refine cw_true rfl ?_
      refine cw_seq ?_
      refine ct_none fI 3 1 ?_
      refine cw_region ?_
      refine wl_v (ov_assign rfl) rfl rfl rfl ?_
      refine wl_v (ov_assign rfl) rfl rfl rfl ?_
      refine wl_nil ?_
      refine ce_then ?_
      refine cw_ret ?_
      refine ce_then_ret ?_
      refine ce_results (v := .tuple #[.slice none (0) (0), .bool false]) (res2 rfl (rv_t rfl) (rv_t rfl)) (fun w' hw => ?_)
      exact ⟨none, 0, 0, (by rw [hv]; exact Nat.le_refl _), (by rw [hv] <;> rfl), ((.consE (show row 3 1 none (0) (0) (cells fI ([])) = row 3 1 none ((compV xs ys zs).1.length) (0) (cells fI ((compV xs ys zs).1)) by rw [hv] <;> rfl) (.head) (.nil) : Keep _ _).ss hw).to_new⟩
  ·
    rw [show [xs, ys].flatten = xs ++ ys from by simp] at c20
    have hv : compV xs ys zs = ([], false) := if_neg (fun h => c20 h.1)
    refine gk (.cons (.tail (.tail .head)) (.nil)) ?_
    refine wg_takep (i := 5) rfl (ov_not rfl) rfl rfl rfl (by kernel_rfl) (by kernel_rfl) (by kernel_rfl) rfl ?_
    refine wg_takep (i := 6) rfl (ov_move rfl) rfl rfl rfl (by kernel_rfl) (by kernel_rfl) (by kernel_rfl) rfl ?_
    refine wg_take_not (i := 7) rfl rfl rfl rfl rfl (by kernel_rfl) (by kernel_rfl) (by kernel_rfl) (by kernel_rfl) ?_
    refine wg_take_not (i := 8) rfl rfl rfl rfl rfl (by kernel_rfl) (by kernel_rfl) (by kernel_rfl) (by kernel_rfl) ?_
    refine wg_take_not (i := 9) rfl rfl rfl rfl rfl (by kernel_rfl) (by kernel_rfl) (by kernel_rfl) (by kernel_rfl) ?_
    refine wg_takep (i := 10) rfl (ov_pick_t rfl rfl) rfl rfl rfl (by kernel_rfl) (by kernel_rfl) (by kernel_rfl) rfl ?_
    refine wg_takep (i := 11) rfl (ov_move rfl) rfl rfl rfl (by kernel_rfl) (by kernel_rfl) (by kernel_rfl) rfl ?_
    refine wg_take_not (i := 12) rfl rfl rfl rfl rfl (by kernel_rfl) (by kernel_rfl) (by kernel_rfl) (by kernel_rfl) ?_
    refine wg_take_not (i := 13) rfl rfl rfl rfl rfl (by kernel_rfl) (by kernel_rfl) (by kernel_rfl) (by kernel_rfl) ?_
    refine wg_take_not (i := 14) rfl rfl rfl rfl rfl (by kernel_rfl) (by kernel_rfl) (by kernel_rfl) (by kernel_rfl) ?_
    refine wg_take_not (i := 15) rfl rfl rfl rfl rfl (by kernel_rfl) (by kernel_rfl) (by kernel_rfl) (by kernel_rfl) ?_
    refine wg_take_not (i := 16) rfl rfl rfl rfl rfl (by kernel_rfl) (by kernel_rfl) (by kernel_rfl) (by kernel_rfl) ?_
    refine wg_take_not (i := 17) rfl rfl rfl rfl rfl (by kernel_rfl) (by kernel_rfl) (by kernel_rfl) (by kernel_rfl) ?_
    refine wg_take_not (i := 18) rfl rfl rfl rfl rfl (by kernel_rfl) (by kernel_rfl) (by kernel_rfl) (by kernel_rfl) ?_
    refine wg_take_not (i := 19) rfl rfl rfl rfl rfl (by kernel_rfl) (by kernel_rfl) (by kernel_rfl) (by kernel_rfl) ?_
    refine wg_take_not (i := 20) rfl rfl rfl rfl rfl (by kernel_rfl) (by kernel_rfl) (by kernel_rfl) (by kernel_rfl) ?_
    refine wg_take_not (i := 21) rfl rfl rfl rfl rfl (by kernel_rfl) (by kernel_rfl) (by kernel_rfl) (by kernel_rfl) ?_
    refine wg_takep (i := 22) rfl (ov_pick_t rfl rfl) rfl rfl rfl (by kernel_rfl) (by kernel_rfl) (by kernel_rfl) rfl ?_
    refine wg_takep (i := 23) rfl (ov_move rfl) rfl rfl rfl (by kernel_rfl) (by kernel_rfl) (by kernel_rfl) rfl ?_
    refine wg_take_not (i := 24) rfl rfl rfl rfl rfl (by kernel_rfl) (by kernel_rfl) (by kernel_rfl) (by kernel_rfl) ?_
    refine wg_take_not (i := 25) rfl rfl rfl rfl rfl (by kernel_rfl) (by kernel_rfl) (by kernel_rfl) (by kernel_rfl) ?_
    refine wg_take_not (i := 26) rfl rfl rfl rfl rfl (by kernel_rfl) (by kernel_rfl) (by kernel_rfl) (by kernel_rfl) ?_
    refine wg_takep (i := 27) rfl (ov_pick_t rfl rfl) rfl rfl rfl (by kernel_rfl) (by kernel_rfl) (by kernel_rfl) rfl ?_
    refine wg_takep (i := 28) rfl (ov_move rfl) rfl rfl rfl (by kernel_rfl) (by kernel_rfl) (by kernel_rfl) rfl ?_
    refine wg_take_not (i := 29) rfl rfl rfl rfl rfl (by kernel_rfl) (by kernel_rfl) (by kernel_rfl) (by kernel_rfl) ?_
    refine wg_take_not (i := 30) rfl rfl rfl rfl rfl (by kernel_rfl) (by kernel_rfl) (by kernel_rfl) (by kernel_rfl) ?_
    refine wg_take_not (i := 31) rfl rfl rfl rfl rfl (by kernel_rfl) (by kernel_rfl) (by kernel_rfl) (by kernel_rfl) ?_
    refine wg_takep (i := 32) rfl (ov_pick_t rfl rfl) rfl rfl rfl (by kernel_rfl) (by kernel_rfl) (by kernel_rfl) rfl ?_
    refine wg_takep (i := 33) rfl (ov_move rfl) rfl rfl rfl (by kernel_rfl) (by kernel_rfl) (by kernel_rfl) rfl ?_
    refine wg_take_not (i := 34) rfl rfl rfl rfl rfl (by kernel_rfl) (by kernel_rfl) (by kernel_rfl) (by kernel_rfl) ?_
    refine wg_take_not (i := 35) rfl rfl rfl rfl rfl (by kernel_rfl) (by kernel_rfl) (by kernel_rfl) (by kernel_rfl) ?_
    refine wg_take_not (i := 36) rfl rfl rfl rfl rfl (by kernel_rfl) (by kernel_rfl) (by kernel_rfl) (by kernel_rfl) ?_
    refine wg_take_not (i := 37) rfl rfl rfl rfl rfl (by kernel_rfl) (by kernel_rfl) (by kernel_rfl) (by kernel_rfl) ?_
    refine wg_take_not (i := 38) rfl rfl rfl rfl rfl (by kernel_rfl) (by kernel_rfl) (by kernel_rfl) (by kernel_rfl) ?_
    refine wg_take_not (i := 39) rfl rfl rfl rfl rfl (by kernel_rfl) (by kernel_rfl) (by kernel_rfl) (by kernel_rfl) ?_
    refine wg_take_not (i := 40) rfl rfl rfl rfl rfl (by kernel_rfl) (by kernel_rfl) (by kernel_rfl) (by kernel_rfl) ?_
    refine wg_take_not (i := 41) rfl rfl rfl rfl rfl (by kernel_rfl) (by kernel_rfl) (by kernel_rfl) (by kernel_rfl) ?_
    refine wg_takep (i := 42) rfl (ov_pick_t rfl rfl) rfl rfl rfl (by kernel_rfl) (by kernel_rfl) (by kernel_rfl) rfl ?_
    refine wg_done (by kernel_rfl) ?_
    refine ce_then ?_
    refine cw_true rfl ?_
    refine cw_seq ?_
    refine ct_none fI 3 1 ?_
    refine cw_region ?_
    refine wl_v (ov_assign rfl) rfl rfl rfl ?_
    refine wl_v (ov_assign rfl) rfl rfl rfl ?_
    refine wl_nil ?_
    refine ce_then ?_
    refine cw_ret ?_
    refine ce_then_ret ?_
    refine ce_results (v := .tuple #[.slice none (0) (0), .bool false]) (res2 rfl (rv_t rfl) (rv_t rfl)) (fun w' hw => ?_)
    exact ⟨none, 0, 0, (by rw [hv]; exact Nat.le_refl _), (by rw [hv] <;> rfl), ((.consE (show row 3 1 none (0) (0) (cells fI ([])) = row 3 1 none ((compV xs ys zs).1.length) (0) (cells fI ((compV xs ys zs).1)) by rw [hv] <;> rfl) (.head) (.nil) : Keep _ _).ss hw).to_new⟩
set_option maxRecDepth 100000 in
theorem smallest_c (w : World) (A : Option Addr) (n : Nat) (c : Nat) (xs : List (Int)) (hA : At w A (cells fI xs)) (eA : xs.length = n) (lA : n ≤ c) (hs : 0 < xs.length ∧ xs.length ≤ 1000) : Calls Try.prog 58 #[.slice A (n) (c)] w (Ret fun rv w' => ∃ v, (∀ m, m ≤ v ↔ ∀ x ∈ xs, m ≤ x) ∧ rv = .int .i64 (v) ∧ New w w' []) := by
  have oA := hA.atB
  subst eA
  refine fn_enter (args := [.slice A (xs.length) (c)]) Try.func58 rfl Try.ntmps58 rfl (SS.start w) ?_
  refine cw_seq ?_
  refine cw_region ?_
  refine wl_v (ov_assign rfl) rfl rfl rfl ?_
  refine wl_nil ?_
  refine ce_then ?_
  refine cw_seq ?_
  refine cw_region ?_
  refine wl_v (ov_move rfl) rfl rfl rfl ?_
  refine wl_v (ov_index (k := 0) (c := c) sI22 tI3 rfl rfl (some_holds (q := 0 * 1) (holds_old oA) (by rw [cells_length fI_len]; have hlt : 0 < xs.length := (by omega); omega)) (show 0 < xs.length from (by omega))) rfl rfl rfl ?_
  refine wl_v (ov_load tI3 (holds_old oA) rfl (get_fI (show 0 < xs.length from (by omega)))) rfl rfl rfl ?_
  refine wl_v (ov_assign rfl) rfl rfl rfl ?_
  refine wl_nil ?_
  refine ce_then ?_
  refine cw_seq ?_
  refine cw_seq ?_
  refine cw_region ?_
  refine wl_v (ov_assign rfl) rfl rfl rfl ?_
  refine wl_nil ?_
  refine ce_then ?_
  refine cw_block ?_
  refine cw_loop2 (fun (k : Nat) (v : Int) => [(0, .slice A (xs.length) (c)), (2, .int .i64 (0)), (3, .int .i64 (v)), (4, .int .i64 (((k : Nat) : Int)))]) (fun (k : Nat) (v : Int) => []) (fun (k : Nat) (v : Int) => k ≤ xs.length ∧ ∀ m, m ≤ v ↔ m ≤ xs.getD 0 0 ∧ ∀ x ∈ xs.take k, m ≤ x) (fun (k : Nat) (v : Int) => xs.length - k) 0 (xs.getD 0 0) ⟨by omega, fun m => by simp⟩ (.cons rfl (.cons rfl (.cons rfl (.cons (congrArg (fun z => some (Value.int .i64 z)) (show 0 = ((0 : Nat) : Int) by first | omega | rfl | (simp; done))) (.nil))))) (.nil) ?_
  intro R0 k v hk hR0
  obtain ⟨hk1, hk2⟩ := hk
  refine cw_seq ?_
  refine cw_seq ?_
  refine cw_region ?_
  refine wl_v (ov_move rfl) rfl rfl rfl ?_
  refine wl_v (ov_move rfl) rfl rfl rfl ?_
  refine wl_v (ov_len (sliceI_spec sI22) rfl) rfl rfl rfl ?_
  refine wl_if (ov_lss rfl rfl) rfl rfl rfl (fun c11 => ?_) (fun c11 => ?_)
  ·
    refine wl_nil ?_
    refine ce_then ?_
    refine cw_true rfl ?_
    refine cw_skip ?_
    refine ce_then ?_
    refine cw_seq ?_
    refine cw_block ?_
    refine cw_region ?_
    refine wl_v (ov_move rfl) rfl rfl rfl ?_
    refine wl_v (ov_move rfl) rfl rfl rfl ?_
    refine wl_v (ov_move rfl) rfl rfl rfl ?_
    refine wl_v (ov_index (k := k) (c := c) sI22 tI3 rfl rfl (some_holds (q := k * 1) (holds_old oA) (by rw [cells_length fI_len]; have hlt : k < xs.length := (by first | omega | (simp; omega)); omega)) (show k < xs.length from (by first | omega | (simp; omega)))) rfl rfl rfl ?_
    refine wl_v (ov_load tI3 (holds_old oA) rfl (get_fI (show k < xs.length from (by first | omega | (simp; omega))))) rfl rfl rfl ?_
    refine wl_v (ov_min (r := min v (xs.getD k 0)) rfl rfl (by first | omega | (split <;> omega))) rfl rfl rfl ?_
    refine wl_v (ov_assign rfl) rfl rfl rfl ?_
    refine wl_nil ?_
    refine ce_block ?_
    refine ce_then ?_
    refine cw_region ?_
    refine wl_v (ov_move rfl) rfl rfl rfl ?_
    refine wl_v (ov_add (r := ((k + 1 : Nat) : Int)) rfl rfl rfl (by omega)) rfl rfl rfl ?_
    refine wl_v (ov_assign rfl) rfl rfl rfl ?_
    refine wl_nil ?_
    exact fun ac_ w_ hs_ => hR0 (k + 1) (min v (xs.getD k 0)) ⟨by omega, least_step (by omega) hk2⟩ (by omega) ac_ w_ (hs_.weaken (.cons rfl (.cons rfl (.cons rfl (.cons rfl (.nil))))) (.nil))
  ·
    refine wl_nil ?_
    refine ce_then ?_
    refine cw_false rfl ?_
    refine cw_exit ?_
    refine ce_then_exit ?_
    refine ce_then_exit ?_
    refine ce_hit ?_
    refine ce_then ?_
    refine cw_seq ?_
    refine cw_region ?_
    refine wl_v (ov_move rfl) rfl rfl rfl ?_
    refine wl_v (ov_assign rfl) rfl rfl rfl ?_
    refine wl_nil ?_
    refine ce_then ?_
    refine cw_ret ?_
    refine ce_results (v := .int .i64 (v)) (res1 rfl (rv_t rfl)) (fun w' hw => ?_)
    exact ⟨v, (fun m => by rw [hk2, List.take_of_length_le (by omega)]; exact ⟨fun h => h.2, fun h => ⟨h _ (getD_mem 0 (by omega)), h⟩⟩), rfl, ((.nil : Keep _ _).ss hw).to_new⟩
set_option maxRecDepth 100000 in
theorem partsFit_c (w : World) (A : Option Addr) (n : Nat) (c : Nat) (xs : List (Int)) (A2 : Option Addr) (n2 : Nat) (c2 : Nat) (ys : List (Int)) (hA : At w A (cells fI xs)) (eA : xs.length = n) (lA : n ≤ c) (hA2 : At w A2 (cells fI ys)) (eA2 : ys.length = n2) (lA2 : n2 ≤ c2) (hsx : Small xs) (hsy : Small ys) (hn : xs.length ≤ 7) : Calls Try.prog 27 #[.slice A (n) (c), .slice A2 (n2) (c2)] w (Ret fun rv w' => rv = .bool (decide (total xs = total ys + ((xs.length : Nat) : Int) * (((xs.length : Nat) : Int) - 1) ∧ (∀ x ∈ xs, ((xs.length : Nat) : Int) - 1 ≤ x) ∧ (∀ x ∈ ys, x ≤ ((xs.length : Nat) : Int)))) ∧ New w w' []) := by
  have oA := hA.atB
  subst eA
  have oA2 := hA2.atB
  subst eA2
  have hsq := sq_bd xs.length (by omega)
  have htx := total_bd hsx xs.length (Nat.le_refl _)
  have hty := total_bd hsy ys.length (Nat.le_refl _)
  rw [List.take_length] at htx hty
  have hly := hsy.1
  have hfl := fall_length ys
  refine fn_enter (args := [.slice A (xs.length) (c), .slice A2 (ys.length) (c2)]) Try.func27 rfl Try.ntmps27 rfl (SS.start w) ?_
  refine cw_seq ?_
  refine cw_region ?_
  refine wl_v (ov_assign rfl) rfl rfl rfl ?_
  refine wl_nil ?_
  refine ce_then ?_
  refine cw_seq ?_
  refine cw_region ?_
  refine wl_v (ov_move rfl) rfl rfl rfl ?_
  refine wl_v (ov_len (sliceI_spec sI22) rfl) rfl rfl rfl ?_
  refine wl_v (ov_move rfl) rfl rfl rfl ?_
  refine wl_v (ov_len (sliceI_spec sI22) rfl) rfl rfl rfl ?_
  refine wl_v (ov_sub (r := ((xs.length : Nat) : Int) - 1) rfl rfl rfl (by omega)) rfl rfl rfl ?_
  refine wl_v (ov_mul (r := ((xs.length : Nat) : Int) * (((xs.length : Nat) : Int) - 1)) rfl rfl rfl (by omega)) rfl rfl rfl ?_
  refine wl_v (ov_assign rfl) rfl rfl rfl ?_
  refine wl_nil ?_
  refine ce_then ?_
  refine cw_seq ?_
  refine cw_region ?_
  refine wl_v (ov_move rfl) rfl rfl rfl ?_
  refine wl_r (or_call (fv := []) (vs := [.slice A (xs.length) (c)]) (cs := []) en39 rfl rfl (call_v (fun w hw => sum_c w A xs.length c xs ((holds_old oA) w hw) rfl lA hsx))) rfl rfl (kt0 rfl ?_)
  refine wl_v (ov_move rfl) rfl rfl rfl ?_
  refine wl_v (ov_sub (r := (total xs) - (((xs.length : Nat) : Int) * (((xs.length : Nat) : Int) - 1))) rfl rfl rfl (by omega)) rfl rfl rfl ?_
  refine wl_v (ov_move rfl) rfl rfl rfl ?_
  refine wl_r (or_call (fv := []) (vs := [.slice A2 (ys.length) (c2)]) (cs := []) en39 rfl rfl (call_v (fun w hw => sum_c w A2 ys.length c2 ys ((holds_old oA2) w hw) rfl lA2 hsy))) rfl rfl (kt0 rfl ?_)
  refine wl_if (ov_eql rfl rfl) rfl rfl rfl (fun c18 => ?_) (fun c18 => ?_)
  ·
    refine wl_v (ov_move rfl) rfl rfl rfl ?_
    refine wl_go rfl rfl ?_
    refine wl_v (ov_move rfl) rfl rfl rfl ?_
    refine wl_go rfl rfl ?_
    refine wl_v (ov_len (sliceI_spec sI22) rfl) rfl rfl rfl ?_
    refine wl_go rfl rfl ?_
    refine wl_if (ov_eql rfl rfl) rfl rfl rfl (fun c22 => ?_) (fun c22 => ?_)
    ·
      have hP : ∀ x ∈ xs, ((xs.length : Nat) : Int) - 1 ≤ x := fun x hx => by rw [List.eq_nil_of_length_eq_zero (show xs.length = 0 by omega)] at hx; cases hx
      refine wl_go rfl rfl ?_
      refine wl_v (ov_move rfl) rfl rfl rfl ?_
      refine wl_not rfl rfl rfl rfl rfl rfl ?_
      refine wl_not rfl rfl rfl rfl rfl rfl ?_
      refine wl_not rfl rfl rfl rfl rfl rfl ?_
      refine wl_not rfl rfl rfl rfl rfl rfl ?_
      refine wl_not rfl rfl rfl rfl rfl rfl ?_
      refine wl_not rfl rfl rfl rfl rfl rfl ?_
      refine wl_go rfl rfl ?_
      refine wl_v (ov_pick_t rfl rfl) rfl rfl rfl ?_
      refine wl_v (ov_pick_t rfl rfl) rfl rfl rfl ?_
      refine wl_v (ov_move rfl) rfl rfl rfl ?_
      refine wl_go rfl rfl ?_
      refine wl_v (ov_move rfl) rfl rfl rfl ?_
      refine wl_go rfl rfl ?_
      refine wl_v (ov_len (sliceI_spec sI22) rfl) rfl rfl rfl ?_
      refine wl_go rfl rfl ?_
      refine wl_if (ov_eql rfl rfl) rfl rfl rfl (fun c35 => ?_) (fun c35 => ?_)
      ·
        have hQ : ∀ x ∈ ys, x ≤ ((xs.length : Nat) : Int) := fun x hx => by rw [List.eq_nil_of_length_eq_zero (show ys.length = 0 by omega)] at hx; cases hx
        refine wl_go rfl rfl ?_
        refine wl_v (ov_move rfl) rfl rfl rfl ?_
        refine wl_not rfl rfl rfl rfl rfl rfl ?_
        refine wl_not rfl rfl rfl rfl rfl rfl ?_
        refine wl_not rfl rfl rfl rfl rfl rfl ?_
        refine wl_not rfl rfl rfl rfl rfl rfl ?_
        refine wl_not rfl rfl rfl rfl rfl rfl ?_
        refine wl_not rfl rfl rfl rfl rfl rfl ?_
        refine wl_not rfl rfl rfl rfl rfl rfl ?_
        refine wl_go rfl rfl ?_
        refine wl_v (ov_pick_t rfl rfl) rfl rfl rfl ?_
        refine wl_v (ov_pick_t rfl rfl) rfl rfl rfl ?_
        refine wl_v (ov_assign rfl) rfl rfl rfl ?_
        refine wl_nil ?_
        refine ce_then ?_
        refine cw_ret ?_
        refine ce_results (v := .bool true) (res1 rfl (rv_t rfl)) (fun w' hw => ?_)
        exact ⟨(bt ⟨by omega, hP, hQ⟩), (Keep.nil.ss hw).to_new⟩
      ·
        refine wl_go rfl rfl ?_
        refine wl_v (ov_move rfl) rfl rfl rfl ?_
        refine wl_go rfl rfl ?_
        refine wl_v (ov_move rfl) rfl rfl rfl ?_
        refine wl_go rfl rfl ?_
        refine wl_r (or_call (fv := []) (vs := [.slice A2 (ys.length) (c2)]) (cs := []) en59 rfl rfl (call_x2 (fun w hw => fallingS_c w A2 ys.length c2 ys ((holds_old oA2) w hw) rfl lA2 (by omega)))) rfl rfl (kt2p rfl (fun A2_38 c2_38 h_38 => ?_))
        refine wl_go rfl rfl ?_
        refine wl_v (ov_index (k := 0) (c := c2_38) sI22 tI3 rfl rfl (some_holds (q := 0 * 1) (holds_row (List.Mem.head _)) (by rw [cells_length fI_len]; have hlt : 0 < (fall ys).length := (by omega); omega)) (show 0 < ys.length from (by omega))) rfl rfl rfl ?_
        refine wl_go rfl rfl ?_
        refine wl_v (ov_load tI3 (holds_row (List.Mem.head _)) rfl (get_fI (show 0 < (fall ys).length from (by omega)))) rfl rfl rfl ?_
        refine wl_go rfl rfl ?_
        refine wl_v (ov_move rfl) rfl rfl rfl ?_
        refine wl_go rfl rfl ?_
        refine wl_v (ov_len (sliceI_spec sI22) rfl) rfl rfl rfl ?_
        refine wl_go rfl rfl ?_
        refine wl_if (ov_leq rfl rfl) rfl rfl rfl (fun c43 => ?_) (fun c43 => ?_)
        ·
          have hQ : ∀ x ∈ ys, x ≤ ((xs.length : Nat) : Int) := (top_fall (by omega) _).1 (by omega)
          refine wl_go rfl rfl ?_
          refine wl_v (ov_pick_f rfl rfl) rfl rfl rfl ?_
          refine wl_v (ov_pick_t rfl rfl) rfl rfl rfl ?_
          refine wl_v (ov_assign rfl) rfl rfl rfl ?_
          refine wl_nil ?_
          refine ce_then ?_
          refine cw_ret ?_
          refine ce_results (v := .bool true) (res1 rfl (rv_t rfl)) (fun w' hw => ?_)
          exact ⟨(bt ⟨by omega, hP, hQ⟩), (Keep.nil.ss hw).to_new⟩
        ·
          have hnQ : ¬ ∀ x ∈ ys, x ≤ ((xs.length : Nat) : Int) := fun h => c43 (by have := (top_fall (by omega) ((xs.length : Nat) : Int)).2 h; omega)
          refine wl_go rfl rfl ?_
          refine wl_v (ov_pick_f rfl rfl) rfl rfl rfl ?_
          refine wl_v (ov_pick_t rfl rfl) rfl rfl rfl ?_
          refine wl_v (ov_assign rfl) rfl rfl rfl ?_
          refine wl_nil ?_
          refine ce_then ?_
          refine cw_ret ?_
          refine ce_results (v := .bool false) (res1 rfl (rv_t rfl)) (fun w' hw => ?_)
          exact ⟨(bf (fun h => hnQ h.2.2)), (Keep.nil.ss hw).to_new⟩
    ·
      refine wl_go rfl rfl ?_
      refine wl_v (ov_move rfl) rfl rfl rfl ?_
      refine wl_go rfl rfl ?_
      refine wl_v (ov_move rfl) rfl rfl rfl ?_
      refine wl_go rfl rfl ?_
      refine wl_r (or_call (fv := []) (vs := [.slice A (xs.length) (c)]) (cs := []) en58 rfl rfl (call_x1 (fun w hw => smallest_c w A xs.length c xs ((holds_old oA) w hw) rfl lA (by first | assumption | omega | (simp; omega))))) rfl rfl (kt1p rfl (fun v_25 h_25 => ?_))
      refine wl_go rfl rfl ?_
      refine wl_v (ov_move rfl) rfl rfl rfl ?_
      refine wl_go rfl rfl ?_
      refine wl_v (ov_len (sliceI_spec sI22) rfl) rfl rfl rfl ?_
      refine wl_go rfl rfl ?_
      refine wl_v (ov_sub (r := ((xs.length : Nat) : Int) - 1) rfl rfl rfl (by omega)) rfl rfl rfl ?_
      refine wl_go rfl rfl ?_
      refine wl_if (ov_geq rfl rfl) rfl rfl rfl (fun c29 => ?_) (fun c29 => ?_)
      ·
        have hP : ∀ x ∈ xs, ((xs.length : Nat) : Int) - 1 ≤ x := (h_25 _).1 (by omega)
        refine wl_go rfl rfl ?_
        refine wl_v (ov_pick_f rfl rfl) rfl rfl rfl ?_
        refine wl_v (ov_pick_t rfl rfl) rfl rfl rfl ?_
        refine wl_v (ov_move rfl) rfl rfl rfl ?_
        refine wl_go rfl rfl ?_
        refine wl_v (ov_move rfl) rfl rfl rfl ?_
        refine wl_go rfl rfl ?_
        refine wl_v (ov_len (sliceI_spec sI22) rfl) rfl rfl rfl ?_
        refine wl_go rfl rfl ?_
        refine wl_if (ov_eql rfl rfl) rfl rfl rfl (fun c35 => ?_) (fun c35 => ?_)
        ·
          have hQ : ∀ x ∈ ys, x ≤ ((xs.length : Nat) : Int) := fun x hx => by rw [List.eq_nil_of_length_eq_zero (show ys.length = 0 by omega)] at hx; cases hx
          refine wl_go rfl rfl ?_
          refine wl_v (ov_move rfl) rfl rfl rfl ?_
          refine wl_not rfl rfl rfl rfl rfl rfl ?_
          refine wl_not rfl rfl rfl rfl rfl rfl ?_
          refine wl_not rfl rfl rfl rfl rfl rfl ?_
          refine wl_not rfl rfl rfl rfl rfl rfl ?_
          refine wl_not rfl rfl rfl rfl rfl rfl ?_
          refine wl_not rfl rfl rfl rfl rfl rfl ?_
          refine wl_not rfl rfl rfl rfl rfl rfl ?_
          refine wl_go rfl rfl ?_
          refine wl_v (ov_pick_t rfl rfl) rfl rfl rfl ?_
          refine wl_v (ov_pick_t rfl rfl) rfl rfl rfl ?_
          refine wl_v (ov_assign rfl) rfl rfl rfl ?_
          refine wl_nil ?_
          refine ce_then ?_
          refine cw_ret ?_
          refine ce_results (v := .bool true) (res1 rfl (rv_t rfl)) (fun w' hw => ?_)
          exact ⟨(bt ⟨by omega, hP, hQ⟩), (Keep.nil.ss hw).to_new⟩
        ·
          refine wl_go rfl rfl ?_
          refine wl_v (ov_move rfl) rfl rfl rfl ?_
          refine wl_go rfl rfl ?_
          refine wl_v (ov_move rfl) rfl rfl rfl ?_
          refine wl_go rfl rfl ?_
          refine wl_r (or_call (fv := []) (vs := [.slice A2 (ys.length) (c2)]) (cs := []) en59 rfl rfl (call_x2 (fun w hw => fallingS_c w A2 ys.length c2 ys ((holds_old oA2) w hw) rfl lA2 (by omega)))) rfl rfl (kt2p rfl (fun A2_38 c2_38 h_38 => ?_))
          refine wl_go rfl rfl ?_
          refine wl_v (ov_index (k := 0) (c := c2_38) sI22 tI3 rfl rfl (some_holds (q := 0 * 1) (holds_row (List.Mem.head _)) (by rw [cells_length fI_len]; have hlt : 0 < (fall ys).length := (by omega); omega)) (show 0 < ys.length from (by omega))) rfl rfl rfl ?_
          refine wl_go rfl rfl ?_
          refine wl_v (ov_load tI3 (holds_row (List.Mem.head _)) rfl (get_fI (show 0 < (fall ys).length from (by omega)))) rfl rfl rfl ?_
          refine wl_go rfl rfl ?_
          refine wl_v (ov_move rfl) rfl rfl rfl ?_
          refine wl_go rfl rfl ?_
          refine wl_v (ov_len (sliceI_spec sI22) rfl) rfl rfl rfl ?_
          refine wl_go rfl rfl ?_
          refine wl_if (ov_leq rfl rfl) rfl rfl rfl (fun c43 => ?_) (fun c43 => ?_)
          ·
            have hQ : ∀ x ∈ ys, x ≤ ((xs.length : Nat) : Int) := (top_fall (by omega) _).1 (by omega)
            refine wl_go rfl rfl ?_
            refine wl_v (ov_pick_f rfl rfl) rfl rfl rfl ?_
            refine wl_v (ov_pick_t rfl rfl) rfl rfl rfl ?_
            refine wl_v (ov_assign rfl) rfl rfl rfl ?_
            refine wl_nil ?_
            refine ce_then ?_
            refine cw_ret ?_
            refine ce_results (v := .bool true) (res1 rfl (rv_t rfl)) (fun w' hw => ?_)
            exact ⟨(bt ⟨by omega, hP, hQ⟩), (Keep.nil.ss hw).to_new⟩
          ·
            have hnQ : ¬ ∀ x ∈ ys, x ≤ ((xs.length : Nat) : Int) := fun h => c43 (by have := (top_fall (by omega) ((xs.length : Nat) : Int)).2 h; omega)
            refine wl_go rfl rfl ?_
            refine wl_v (ov_pick_f rfl rfl) rfl rfl rfl ?_
            refine wl_v (ov_pick_t rfl rfl) rfl rfl rfl ?_
            refine wl_v (ov_assign rfl) rfl rfl rfl ?_
            refine wl_nil ?_
            refine ce_then ?_
            refine cw_ret ?_
            refine ce_results (v := .bool false) (res1 rfl (rv_t rfl)) (fun w' hw => ?_)
            exact ⟨(bf (fun h => hnQ h.2.2)), (Keep.nil.ss hw).to_new⟩
      ·
        have hnP : ¬ ∀ x ∈ xs, ((xs.length : Nat) : Int) - 1 ≤ x := fun h => c29 (by have := (h_25 (((xs.length : Nat) : Int) - 1)).2 h; omega)
        refine wl_go rfl rfl ?_
        refine wl_v (ov_pick_f rfl rfl) rfl rfl rfl ?_
        refine wl_v (ov_pick_t rfl rfl) rfl rfl rfl ?_
        refine wl_v (ov_move rfl) rfl rfl rfl ?_
        refine wl_not rfl rfl rfl rfl rfl rfl ?_
        refine wl_not rfl rfl rfl rfl rfl rfl ?_
        refine wl_not rfl rfl rfl rfl rfl rfl ?_
        refine wl_not rfl rfl rfl rfl rfl rfl ?_
        refine wl_notu rfl rfl rfl rfl rfl ?_
        refine wl_notu rfl rfl rfl rfl rfl ?_
        refine wl_notu rfl rfl rfl rfl rfl ?_
        refine wl_notu rfl rfl rfl rfl rfl ?_
        refine wl_notu rfl rfl rfl rfl rfl ?_
        refine wl_notu rfl rfl rfl rfl rfl ?_
        refine wl_notu rfl rfl rfl rfl rfl ?_
        refine wl_not rfl rfl rfl rfl rfl rfl ?_
        refine wl_v (ov_pick_f rfl rfl) rfl rfl rfl ?_
        refine wl_v (ov_assign rfl) rfl rfl rfl ?_
        refine wl_nil ?_
        refine ce_then ?_
        refine cw_ret ?_
        refine ce_results (v := .bool false) (res1 rfl (rv_t rfl)) (fun w' hw => ?_)
        exact ⟨(bf (fun h => hnP h.2.1)), (Keep.nil.ss hw).to_new⟩
  ·
    refine wl_v (ov_move rfl) rfl rfl rfl ?_
    refine wl_not rfl rfl rfl rfl rfl rfl ?_
    refine wl_not rfl rfl rfl rfl rfl rfl ?_
    refine wl_not rfl rfl rfl rfl rfl rfl ?_
    refine wl_not rfl rfl rfl rfl rfl rfl ?_
    refine wl_notu rfl rfl rfl rfl rfl ?_
    refine wl_notu rfl rfl rfl rfl rfl ?_
    refine wl_notu rfl rfl rfl rfl rfl ?_
    refine wl_notu rfl rfl rfl rfl rfl ?_
    refine wl_notu rfl rfl rfl rfl rfl ?_
    refine wl_notu rfl rfl rfl rfl rfl ?_
    refine wl_not rfl rfl rfl rfl rfl rfl ?_
    refine wl_v (ov_pick_f rfl rfl) rfl rfl rfl ?_
    refine wl_v (ov_move rfl) rfl rfl rfl ?_
    refine wl_not rfl rfl rfl rfl rfl rfl ?_
    refine wl_not rfl rfl rfl rfl rfl rfl ?_
    refine wl_not rfl rfl rfl rfl rfl rfl ?_
    refine wl_not rfl rfl rfl rfl rfl rfl ?_
    refine wl_notu rfl rfl rfl rfl rfl ?_
    refine wl_notu rfl rfl rfl rfl rfl ?_
    refine wl_notu rfl rfl rfl rfl rfl ?_
    refine wl_notu rfl rfl rfl rfl rfl ?_
    refine wl_notu rfl rfl rfl rfl rfl ?_
    refine wl_notu rfl rfl rfl rfl rfl ?_
    refine wl_notu rfl rfl rfl rfl rfl ?_
    refine wl_not rfl rfl rfl rfl rfl rfl ?_
    refine wl_v (ov_pick_f rfl rfl) rfl rfl rfl ?_
    refine wl_v (ov_assign rfl) rfl rfl rfl ?_
    refine wl_nil ?_
    refine ce_then ?_
    refine cw_ret ?_
    refine ce_results (v := .bool false) (res1 rfl (rv_t rfl)) (fun w' hw => ?_)
    exact ⟨(bf (fun h => c18 (by have := h.1; omega))), (Keep.nil.ss hw).to_new⟩
set_option maxRecDepth 100000 in
theorem composed_c (w : World) (A : Option Addr) (n : Nat) (c : Nat) (xs : List (Int)) (A2 : Option Addr) (n2 : Nat) (c2 : Nat) (ys : List (Int)) (A3 : Option Addr) (n3 : Nat) (c3 : Nat) (zs : List (Int)) (hA : At w A (cells fI xs)) (eA : xs.length = n) (lA : n ≤ c) (hA2 : At w A2 (cells fI ys)) (eA2 : ys.length = n2) (lA2 : n2 ≤ c2) (hA3 : At w A3 (cells fI zs)) (eA3 : zs.length = n3) (lA3 : n3 ≤ c3) (hsx : Small xs) (hsz : Small zs) (hl : xs.length + ys.length + zs.length ≤ 7) : Calls Try.prog 28 #[.slice A (n) (c), .slice A2 (n2) (c2), .slice A3 (n3) (c3)] w (Ret fun rv w' => ∃ A4 c4, ((compL xs ys zs).length ≤ c4) ∧ rv = .slice A4 ((compL xs ys zs).length) (c4) ∧ New w w' [row 3 1 A4 ((compL xs ys zs).length) (c4) (cells fI (compL xs ys zs))]) := by
  have oA := hA.atB
  subst eA
  have oA2 := hA2.atB
  subst eA2
  have oA3 := hA3.atB
  subst eA3
  have hcl := compL_length xs ys zs
  refine fn_enter (args := [.slice A (xs.length) (c), .slice A2 (ys.length) (c2), .slice A3 (zs.length) (c3)]) Try.func28 rfl Try.ntmps28 rfl (SS.start w) ?_
  refine cw_seq ?_
  refine cw_region ?_
  refine wl_v (ov_assign rfl) rfl rfl rfl ?_
  refine wl_nil ?_
  refine ce_then ?_
  refine cw_seq ?_
  refine cw_region ?_
  refine wl_r (or_buildSlice (e := 3) (size := 1) (is := []) (vs := []) (cs := cells fI ([])) rfl rfl rfl (by decide) (fun _ => by kernel_rfl)) rfl rfl (kt1 rfl (fun g10 => ?_))
  refine wl_v (ov_assign rfl) rfl rfl rfl ?_
  refine wl_nil ?_
  refine ce_then ?_
  refine cw_seq ?_
  refine cw_seq ?_
  refine cw_region ?_
  refine wl_v (ov_assign rfl) rfl rfl rfl ?_
  refine wl_nil ?_
  refine ce_then ?_
  refine cw_block ?_
  refine cw_loop3 (fun (k : Nat) (A4 : Option Addr) (c4 : Nat) => [(0, .slice A (xs.length) (c)), (1, .slice A2 (ys.length) (c2)), (2, .slice A3 (zs.length) (c3)), (6, .slice none (0) (0)), (7, .slice A4 (k) (c4)), (8, .int .i64 (((k : Nat) : Int)))]) (fun (k : Nat) (A4 : Option Addr) (c4 : Nat) => [row 3 1 A4 (k) (c4) (cells fI (upBy zs.length (xs.take k)))]) (fun (k : Nat) (A4 : Option Addr) (c4 : Nat) => k ≤ xs.length ∧ k ≤ c4) (fun (k : Nat) (A4 : Option Addr) (c4 : Nat) => xs.length - k) 0 (some ⟨g10, 0, none⟩) 0 ⟨by omega, Nat.le_refl _⟩ (.cons rfl (.cons rfl (.cons rfl (.cons rfl (.cons rfl (.cons (congrArg (fun z => some (Value.int .i64 z)) (show 0 = ((0 : Nat) : Int) by first | omega | rfl | (simp; done))) (.nil))))))) (.consE (show row 3 1 (some ⟨g10, 0, none⟩) (0) (0) (cells fI ([])) = row 3 1 (some ⟨g10, 0, none⟩) (0) (0) (cells fI (upBy zs.length (xs.take 0))) by rfl) (.head) (.nil)) ?_
  intro R0 k A4 c4 hk hR0
  obtain ⟨hk1, hk2⟩ := hk
  refine cw_seq ?_
  refine cw_seq ?_
  refine cw_region ?_
  refine wl_v (ov_move rfl) rfl rfl rfl ?_
  refine wl_v (ov_move rfl) rfl rfl rfl ?_
  refine wl_v (ov_len (sliceI_spec sI22) rfl) rfl rfl rfl ?_
  refine wl_if (ov_lss rfl rfl) rfl rfl rfl (fun c14 => ?_) (fun c14 => ?_)
  ·
    refine wl_nil ?_
    refine ce_then ?_
    refine cw_true rfl ?_
    refine cw_skip ?_
    refine ce_then ?_
    refine cw_seq ?_
    refine cw_block ?_
    refine cw_region ?_
    refine wl_v (ov_move rfl) rfl rfl rfl ?_
    refine wl_v (ov_move rfl) rfl rfl rfl ?_
    refine wl_v (ov_move rfl) rfl rfl rfl ?_
    refine wl_v (ov_index (k := k) (c := c) sI22 tI3 rfl rfl (some_holds (q := k * 1) (holds_old oA) (by rw [cells_length fI_len]; have hlt : k < xs.length := (by omega); omega)) (show k < xs.length from (by omega))) rfl rfl rfl ?_
    refine wl_v (ov_load tI3 (holds_old oA) rfl (get_fI (show k < xs.length from (by omega)))) rfl rfl rfl ?_
    have hx := hsx.at_ (k := k) (by omega)
    refine wl_v (ov_move rfl) rfl rfl rfl ?_
    refine wl_v (ov_len (sliceI_spec sI22) rfl) rfl rfl rfl ?_
    refine wl_v (ov_add (r := (xs.getD k 0) + ((zs.length : Nat) : Int)) rfl rfl rfl (by omega)) rfl rfl rfl ?_
    refine wl_r (or_buildSlice (e := 3) (size := 1) (is := [0]) (vs := [.int .i64 ((xs.getD k 0) + ((zs.length : Nat) : Int))]) (cs := cells fI ([(xs.getD k 0) + ((zs.length : Nat) : Int)])) rfl rfl rfl (by decide) (fun _ => by kernel_rfl)) rfl rfl (kt1 rfl (fun g25 => ?_))
    refine wl_r (or_append (c2 := 1) sI22 tI3 rfl (by decide) rfl rfl (.tail .head) (holds_row (List.Mem.head _)) (by rw [cells_length fI_len]; try simp) (one_cells fI_one _) cells_append (by omega) (by omega)) rfl rfl (kt2p rfl (fun A26 c26 h26 => ?_))
    refine wl_v (ov_assign rfl) rfl rfl rfl ?_
    refine wl_nil ?_
    refine ce_block ?_
    refine ce_then ?_
    refine cw_region ?_
    refine wl_v (ov_move rfl) rfl rfl rfl ?_
    refine wl_v (ov_add (r := ((k + 1 : Nat) : Int)) rfl rfl rfl (by omega)) rfl rfl rfl ?_
    refine wl_v (ov_assign rfl) rfl rfl rfl ?_
    refine wl_nil ?_
    exact fun ac_ w_ hs_ => hR0 (k + 1) A26 c26 ⟨by omega, h26⟩ (by omega) ac_ w_ (hs_.weaken (.cons rfl (.cons rfl (.cons rfl (.cons rfl (.cons rfl (.cons rfl (.nil))))))) (.consE (show row 3 1 A26 (k + 1) (c26) (cells fI ((upBy zs.length (xs.take k)) ++ ([(xs.getD k 0) + ((zs.length : Nat) : Int)]))) = row 3 1 A26 ((k + 1)) (c26) (cells fI (upBy zs.length (xs.take (k + 1)))) by rw [upBy_take (by omega)] <;> rfl) (.head) (.nil)))
  ·
    refine wl_nil ?_
    refine ce_then ?_
    refine cw_false rfl ?_
    refine cw_exit ?_
    refine ce_then_exit ?_
    refine ce_then_exit ?_
    refine ce_hit ?_
    refine ce_then ?_
    refine cw_seq ?_
    refine cw_seq ?_
    refine cw_region ?_
    refine wl_v (ov_assign rfl) rfl rfl rfl ?_
    refine wl_nil ?_
    refine ce_then ?_
    refine cw_block ?_
    refine cw_loop3 (fun (q : Nat) (A5 : Option Addr) (c6 : Nat) => [(0, .slice A (xs.length) (c)), (1, .slice A2 (ys.length) (c2)), (2, .slice A3 (zs.length) (c3)), (6, .slice none (0) (0)), (7, .slice A5 (xs.length + q) (c6)), (9, .int .i64 (((q : Nat) : Int)))]) (fun (q : Nat) (A5 : Option Addr) (c6 : Nat) => [row 3 1 A5 (xs.length + q) (c6) (cells fI (upBy zs.length xs ++ upBy xs.length (zs.take q)))]) (fun (q : Nat) (A5 : Option Addr) (c6 : Nat) => q ≤ zs.length ∧ xs.length + q ≤ c6) (fun (q : Nat) (A5 : Option Addr) (c6 : Nat) => zs.length - q) 0 A4 c4 ⟨by omega, by omega⟩ (.cons rfl (.cons rfl (.cons rfl (.cons rfl (.cons (congrArg (fun z => some (Value.slice A4 z c4)) (show k = (xs.length + 0) from (by omega))) (.cons (congrArg (fun z => some (Value.int .i64 z)) (show 0 = ((0 : Nat) : Int) by first | omega | rfl | (simp; done))) (.nil))))))) (.consE (show row 3 1 A4 (k) (c4) (cells fI (upBy zs.length (xs.take k))) = row 3 1 A4 (xs.length + 0) (c4) (cells fI (upBy zs.length xs ++ upBy xs.length (zs.take 0))) by rw [List.take_of_length_le (show xs.length ≤ k by omega), show k = xs.length from by omega]; simp [upBy]) (.head) (.nil)) ?_
    intro R1 q A5 c6 hk1 hR1
    obtain ⟨hq1, hq2⟩ := hk1
    refine cw_seq ?_
    refine cw_seq ?_
    refine cw_region ?_
    refine wl_v (ov_move rfl) rfl rfl rfl ?_
    refine wl_v (ov_move rfl) rfl rfl rfl ?_
    refine wl_v (ov_len (sliceI_spec sI22) rfl) rfl rfl rfl ?_
    refine wl_if (ov_lss rfl rfl) rfl rfl rfl (fun c30 => ?_) (fun c30 => ?_)
    ·
      refine wl_nil ?_
      refine ce_then ?_
      refine cw_true rfl ?_
      refine cw_skip ?_
      refine ce_then ?_
      refine cw_seq ?_
      refine cw_block ?_
      refine cw_region ?_
      refine wl_v (ov_move rfl) rfl rfl rfl ?_
      refine wl_v (ov_move rfl) rfl rfl rfl ?_
      refine wl_v (ov_move rfl) rfl rfl rfl ?_
      refine wl_v (ov_index (k := q) (c := c3) sI22 tI3 rfl rfl (some_holds (q := q * 1) (holds_old oA3) (by rw [cells_length fI_len]; have hlt : q < zs.length := (by omega); omega)) (show q < zs.length from (by omega))) rfl rfl rfl ?_
      refine wl_v (ov_load tI3 (holds_old oA3) rfl (get_fI (show q < zs.length from (by omega)))) rfl rfl rfl ?_
      have hz := hsz.at_ (k := q) (by omega)
      refine wl_v (ov_move rfl) rfl rfl rfl ?_
      refine wl_v (ov_len (sliceI_spec sI22) rfl) rfl rfl rfl ?_
      refine wl_v (ov_add (r := (zs.getD q 0) + ((xs.length : Nat) : Int)) rfl rfl rfl (by omega)) rfl rfl rfl ?_
      refine wl_r (or_buildSlice (e := 3) (size := 1) (is := [0]) (vs := [.int .i64 ((zs.getD q 0) + ((xs.length : Nat) : Int))]) (cs := cells fI ([(zs.getD q 0) + ((xs.length : Nat) : Int)])) rfl rfl rfl (by decide) (fun _ => by kernel_rfl)) rfl rfl (kt1 rfl (fun g41 => ?_))
      refine wl_r (or_append (c2 := 1) sI22 tI3 rfl (by decide) rfl rfl (.tail .head) (holds_row (List.Mem.head _)) (by rw [cells_length fI_len]; try simp) (one_cells fI_one _) cells_append (by omega) (by omega)) rfl rfl (kt2p rfl (fun A42 c42 h42 => ?_))
      refine wl_v (ov_assign rfl) rfl rfl rfl ?_
      refine wl_nil ?_
      refine ce_block ?_
      refine ce_then ?_
      refine cw_region ?_
      refine wl_v (ov_move rfl) rfl rfl rfl ?_
      refine wl_v (ov_add (r := ((q + 1 : Nat) : Int)) rfl rfl rfl (by omega)) rfl rfl rfl ?_
      refine wl_v (ov_assign rfl) rfl rfl rfl ?_
      refine wl_nil ?_
      exact fun ac_ w_ hs_ => hR1 (q + 1) A42 c42 ⟨by omega, by omega⟩ (by omega) ac_ w_ (hs_.weaken (.cons rfl (.cons rfl (.cons rfl (.cons rfl (.cons (congrArg (fun z => some (Value.slice A42 z c42)) (show ((xs.length + q) + 1) = (xs.length + (q + 1)) from (by omega))) (.cons rfl (.nil))))))) (.consE (show row 3 1 A42 ((xs.length + q) + 1) (c42) (cells fI ((upBy zs.length xs ++ upBy xs.length (zs.take q)) ++ ([(zs.getD q 0) + ((xs.length : Nat) : Int)]))) = row 3 1 A42 (xs.length + (q + 1)) (c42) (cells fI (upBy zs.length xs ++ upBy xs.length (zs.take (q + 1)))) by rw [upBy_take (by omega), ← List.append_assoc]; exact row_eq (by omega) rfl) (.head) (.nil)))
    ·
      refine wl_nil ?_
      refine ce_then ?_
      refine cw_false rfl ?_
      refine cw_exit ?_
      refine ce_then_exit ?_
      refine ce_then_exit ?_
      refine ce_hit ?_
      refine ce_then ?_
      refine cw_seq ?_
      refine cw_region ?_
      refine wl_v (ov_move rfl) rfl rfl rfl ?_
      refine wl_v (ov_move rfl) rfl rfl rfl ?_
      refine wl_r (or_append (c2 := c2) sI22 tI3 rfl (by decide) rfl rfl (.head) (holds_old oA2) ((by rw [cells_length fI_len])) (one_cells fI_one _) cells_append (by omega) (by omega)) rfl rfl (kt2p rfl (fun A45 c45 h45 => ?_))
      refine wl_v (ov_assign rfl) rfl rfl rfl ?_
      refine wl_nil ?_
      refine ce_then ?_
      refine cw_ret ?_
      refine ce_results (v := .slice A45 ((xs.length + q) + ys.length) (c45)) (res1 rfl (rv_t rfl)) (fun w' hw => ?_)
      exact ⟨A45, c45, (by omega), (by rw [hcl, show q = zs.length from by omega]), ((.consE (show row 3 1 A45 ((xs.length + q) + ys.length) (c45) (cells fI ((upBy zs.length xs ++ upBy xs.length (zs.take q)) ++ ys)) = row 3 1 A45 ((compL xs ys zs).length) (c45) (cells fI (compL xs ys zs)) by rw [hcl, List.take_of_length_le (show zs.length ≤ q by omega), show q = zs.length from by omega] <;> rfl) (.head) (.nil) : Keep _ _).ss hw).to_new⟩
set_option maxRecDepth 100000 in
theorem ComposeS_c (w : World) (A : Option Addr) (n : Nat) (c : Nat) (xs : List (Int)) (A2 : Option Addr) (n2 : Nat) (c2 : Nat) (ys : List (Int)) (A3 : Option Addr) (n3 : Nat) (c3 : Nat) (zs : List (Int)) (hA : At w A (cells fI xs)) (eA : xs.length = n) (lA : n ≤ c) (hA2 : At w A2 (cells fI ys)) (eA2 : ys.length = n2) (lA2 : n2 ≤ c2) (hA3 : At w A3 (cells fI zs)) (eA3 : zs.length = n3) (lA3 : n3 ≤ c3) (hs : xs.length ≤ 1048576 ∧ ys.length ≤ 1048576 ∧ zs.length ≤ 1048576) : Calls Try.prog 7 #[.slice A (n) (c), .slice A2 (n2) (c2), .slice A3 (n3) (c3)] w (Ret fun rv w' => ∃ A4 c4 c5, ((compV xs ys zs).1.length ≤ c4) ∧ rv = .tuple #[.slice A4 ((compV xs ys zs).1.length) (c4), .bool ((compV xs ys zs).2)] ∧ New w w' [row 3 1 A4 ((compV xs ys zs).1.length) (c5) (cells fI ((compV xs ys zs).1))]) := by
  have oA := hA.atB
  subst eA
  have oA2 := hA2.atB
  subst eA2
  have oA3 := hA3.atB
  subst eA3
  refine fn_enter (args := [.slice A (xs.length) (c), .slice A2 (ys.length) (c2), .slice A3 (zs.length) (c3)]) Try.func7 rfl Try.ntmps7 rfl (SS.start w) ?_
  refine cw_seq ?_
  refine cw_region ?_
  refine wl_v (ov_assign rfl) rfl rfl rfl ?_
  refine wl_v (ov_assign rfl) rfl rfl rfl ?_
  refine wl_nil ?_
  refine ce_then ?_
  refine cw_seq ?_
  refine cw_region ?_
  refine wl_v (ov_move rfl) rfl rfl rfl ?_
  refine wl_r (or_call (fv := []) (vs := [.slice A (xs.length) (c)]) (cs := []) en24 rfl rfl (call_x2 (fun w hw => copyInts_c w A xs.length c xs ((holds_old oA) w hw) rfl lA (by first | assumption | omega | (simp; omega))))) rfl rfl (kt2p rfl (fun A2_10 c2_10 h_10 => ?_))
  refine wl_v (ov_move rfl) rfl rfl rfl ?_
  refine wl_r (or_append (c2 := c2) sI22 tI3 rfl (by decide) rfl rfl (.head) (holds_old oA2) ((by rw [cells_length fI_len])) (one_cells fI_one _) cells_append (by omega) (by omega)) rfl rfl (kt2p rfl (fun A12 c12 h12 => ?_))
  refine wl_v (ov_assign rfl) rfl rfl rfl ?_
  refine wl_nil ?_
  refine ce_then ?_
  refine cw_seq ?_
  refine cw_seq ?_
  refine cw_region ?_
  refine wl_v (ov_move rfl) rfl rfl rfl ?_
  refine wl_r (or_call (fv := []) (vs := [.slice A12 (xs.length + ys.length) (c12)]) (cs := []) en25 rfl rfl (call_v (fun w hw => validS_c w A12 (xs.length + ys.length) c12 (xs ++ ys) ((holds_row (List.Mem.head _)) w hw) (by rw [List.length_append]) h12 (by rw [List.length_append]; omega)))) rfl rfl (kt_if rfl (fun c14 => ?_) (fun c14 => ?_))
  ·
    have hV := c14
    have hsx := small_l hV.small
    have hsy := small_r hV.small
    have hln := hV.1
    rw [List.length_append] at hln
    have hsq := sq_bd xs.length (by omega)
    have htx := total_bd hsx xs.length (Nat.le_refl _)
    have hty := total_bd hsy ys.length (Nat.le_refl _)
    rw [List.take_length] at htx hty
    refine wl_v (ov_not rfl) rfl rfl rfl ?_
    refine wl_v (ov_move rfl) rfl rfl rfl ?_
    refine wl_go rfl rfl ?_
    refine wl_v (ov_move rfl) rfl rfl rfl ?_
    refine wl_go rfl rfl ?_
    refine wl_r (or_call (fv := []) (vs := [.slice A12 (xs.length + ys.length) (c12)]) (cs := []) en26 rfl rfl (call_v (fun w hw => isGraphic_c w A12 (xs.length + ys.length) c12 (xs ++ ys) ((holds_row (List.Mem.head _)) w hw) (by rw [List.length_append]) h12 c14))) rfl rfl (kt_if rfl (fun c18 => ?_) (fun c18 => ?_))
    ·
      refine wl_go rfl rfl ?_
      refine wl_v (ov_not rfl) rfl rfl rfl ?_
      refine wl_v (ov_pick_f rfl rfl) rfl rfl rfl ?_
      refine wl_v (ov_move rfl) rfl rfl rfl ?_
      refine wl_go rfl rfl ?_
      refine wl_v (ov_move rfl) rfl rfl rfl ?_
      refine wl_go rfl rfl ?_
      refine wl_r (or_call (fv := []) (vs := [.slice A3 (zs.length) (c3)]) (cs := []) en25 rfl rfl (call_v (fun w hw => validS_c w A3 zs.length c3 zs ((holds_old oA3) w hw) rfl lA3 (by first | assumption | omega | (simp; omega))))) rfl rfl (kt_if rfl (fun c23 => ?_) (fun c23 => ?_))
      ·
        have hzl := c23.1
        refine wl_go rfl rfl ?_
        refine wl_v (ov_not rfl) rfl rfl rfl ?_
        refine wl_v (ov_pick_f rfl rfl) rfl rfl rfl ?_
        refine wl_v (ov_move rfl) rfl rfl rfl ?_
        refine wl_go rfl rfl ?_
        refine wl_v (ov_move rfl) rfl rfl rfl ?_
        refine wl_go rfl rfl ?_
        refine wl_r (or_call (fv := []) (vs := [.slice A3 (zs.length) (c3)]) (cs := []) en26 rfl rfl (call_v (fun w hw => isGraphic_c w A3 zs.length c3 zs ((holds_old oA3) w hw) rfl lA3 c23))) rfl rfl (kt_if rfl (fun c28 => ?_) (fun c28 => ?_))
        ·
          refine wl_go rfl rfl ?_
          refine wl_v (ov_not rfl) rfl rfl rfl ?_
          refine wl_v (ov_pick_f rfl rfl) rfl rfl rfl ?_
          refine wl_v (ov_move rfl) rfl rfl rfl ?_
          refine wl_go rfl rfl ?_
          refine wl_v (ov_move rfl) rfl rfl rfl ?_
          refine wl_go rfl rfl ?_
          refine wl_v (ov_len (sliceI_spec sI22) rfl) rfl rfl rfl ?_
          refine wl_go rfl rfl ?_
          refine wl_v (ov_move rfl) rfl rfl rfl ?_
          refine wl_go rfl rfl ?_
          refine wl_v (ov_len (sliceI_spec sI22) rfl) rfl rfl rfl ?_
          refine wl_go rfl rfl ?_
          refine wl_v (ov_add (r := (((xs.length + ys.length) + zs.length : Nat) : Int)) rfl rfl rfl (by omega)) rfl rfl rfl ?_
          refine wl_go rfl rfl ?_
          refine wl_if (ov_gtr rfl rfl) rfl rfl rfl (fun c37 => ?_) (fun c37 => ?_)
          ·
            have hv : compV xs ys zs = ([], false) := if_neg (fun h => by have := h.2.2.1; omega)
            refine wl_v (ov_pick_f rfl rfl) rfl rfl rfl ?_
            refine wl_v (ov_move rfl) rfl rfl rfl ?_
            refine wl_not rfl rfl rfl rfl rfl rfl ?_
            refine wl_not rfl rfl rfl rfl rfl rfl ?_
            refine wl_not rfl rfl rfl rfl rfl rfl ?_
            refine wl_not rfl rfl rfl rfl rfl rfl ?_
            refine wl_v (ov_pick_t rfl rfl) rfl rfl rfl ?_
            refine wl_nil ?_
            refine ce_then ?_
            refine cw_true rfl ?_
            refine cw_seq ?_
            refine ct_none fI 3 1 ?_
            refine cw_region ?_
            refine wl_v (ov_assign rfl) rfl rfl rfl ?_
            refine wl_v (ov_assign rfl) rfl rfl rfl ?_
            refine wl_nil ?_
            refine ce_then ?_
            refine cw_ret ?_
            refine ce_then_ret ?_
            refine ce_results (v := .tuple #[.slice none (0) (0), .bool false]) (res2 rfl (rv_t rfl) (rv_t rfl)) (fun w' hw => ?_)
            exact ⟨none, 0, 0, (by rw [hv]; exact Nat.le_refl _), (by rw [hv] <;> rfl), ((.consE (show row 3 1 none (0) (0) (cells fI ([])) = row 3 1 none ((compV xs ys zs).1.length) (0) (cells fI ((compV xs ys zs).1)) by rw [hv] <;> rfl) (.head) (.nil) : Keep _ _).ss hw).to_new⟩
          ·
            refine wl_v (ov_pick_f rfl rfl) rfl rfl rfl ?_
            refine wl_v (ov_move rfl) rfl rfl rfl ?_
            refine wl_go rfl rfl ?_
            refine wl_v (ov_move rfl) rfl rfl rfl ?_
            refine wl_go rfl rfl ?_
            refine wl_v (ov_move rfl) rfl rfl rfl ?_
            refine wl_go rfl rfl ?_
            refine wl_r (or_call (fv := []) (vs := [.slice A (xs.length) (c), .slice A2 (ys.length) (c2)]) (cs := []) en27 rfl rfl (call_v (fun w hw => partsFit_c w A xs.length c xs A2 ys.length c2 ys ((holds_old oA) w hw) rfl lA ((holds_old oA2) w hw) rfl lA2 hsx hsy (by first | assumption | omega | (simp; omega))))) rfl rfl (kt_if rfl (fun c42 => ?_) (fun c42 => ?_))
            ·
              have hv : compV xs ys zs = (compL xs ys zs, true) := if_pos ⟨⟨c14, c18⟩, ⟨c23, c28⟩, by omega, c42⟩
              refine wl_go rfl rfl ?_
              refine wl_v (ov_not rfl) rfl rfl rfl ?_
              refine wl_v (ov_pick_f rfl rfl) rfl rfl rfl ?_
              refine wl_nil ?_
              refine ce_then ?_
              refine cw_false rfl ?_
              refine cw_skip ?_
              refine ce_then ?_
              refine cw_seq ?_
              refine cw_region ?_
              refine wl_v (ov_move rfl) rfl rfl rfl ?_
              refine wl_v (ov_move rfl) rfl rfl rfl ?_
              refine wl_v (ov_move rfl) rfl rfl rfl ?_
              refine wl_r (or_call (fv := []) (vs := [.slice A (xs.length) (c), .slice A2 (ys.length) (c2), .slice A3 (zs.length) (c3)]) (cs := []) en28 rfl rfl (call_x2 (fun w hw => composed_c w A xs.length c xs A2 ys.length c2 ys A3 zs.length c3 zs ((holds_old oA) w hw) rfl lA ((holds_old oA2) w hw) rfl lA2 ((holds_old oA3) w hw) rfl lA3 hsx c23.small (by first | assumption | omega | (simp; omega))))) rfl rfl (kt2p rfl (fun A4_48 c4_48 h_48 => ?_))
              refine wl_v (ov_assign rfl) rfl rfl rfl ?_
              refine wl_v (ov_assign rfl) rfl rfl rfl ?_
              refine wl_nil ?_
              refine ce_then ?_
              refine cw_ret ?_
              refine ce_results (v := .tuple #[.slice A4_48 ((compL xs ys zs).length) (c4_48), .bool true]) (res2 rfl (rv_t rfl) (rv_t rfl)) (fun w' hw => ?_)
              exact ⟨A4_48, c4_48, c4_48, (by rw [hv]; exact h_48), (by rw [hv]), ((.consE (show row 3 1 A4_48 ((compL xs ys zs).length) (c4_48) (cells fI (compL xs ys zs)) = row 3 1 A4_48 ((compV xs ys zs).1.length) (c4_48) (cells fI ((compV xs ys zs).1)) by rw [hv]) (.head) (.nil) : Keep _ _).ss hw).to_new⟩
            ·
              have hv : compV xs ys zs = ([], false) := if_neg (fun h => c42 h.2.2.2)
              refine wl_go rfl rfl ?_
              refine wl_v (ov_not rfl) rfl rfl rfl ?_
              refine wl_v (ov_pick_f rfl rfl) rfl rfl rfl ?_
              refine wl_nil ?_
              refine ce_then ?_
              refine cw_true rfl ?_
              refine cw_seq ?_
              refine ct_none fI 3 1 ?_
              refine cw_region ?_
              refine wl_v (ov_assign rfl) rfl rfl rfl ?_
              refine wl_v (ov_assign rfl) rfl rfl rfl ?_
              refine wl_nil ?_
              refine ce_then ?_
              refine cw_ret ?_
              refine ce_then_ret ?_
              refine ce_results (v := .tuple #[.slice none (0) (0), .bool false]) (res2 rfl (rv_t rfl) (rv_t rfl)) (fun w' hw => ?_)
              exact ⟨none, 0, 0, (by rw [hv]; exact Nat.le_refl _), (by rw [hv] <;> rfl), ((.consE (show row 3 1 none (0) (0) (cells fI ([])) = row 3 1 none ((compV xs ys zs).1.length) (0) (cells fI ((compV xs ys zs).1)) by rw [hv] <;> rfl) (.head) (.nil) : Keep _ _).ss hw).to_new⟩
        ·
          have hv : compV xs ys zs = ([], false) := if_neg (fun h => c28 h.2.1.2)
          refine wl_go rfl rfl ?_
          refine wl_v (ov_not rfl) rfl rfl rfl ?_
          refine wl_v (ov_pick_f rfl rfl) rfl rfl rfl ?_
          refine wl_v (ov_move rfl) rfl rfl rfl ?_
          refine wl_not rfl rfl rfl rfl rfl rfl ?_
          refine wl_not rfl rfl rfl rfl rfl rfl ?_
          refine wl_not rfl rfl rfl rfl rfl rfl ?_
          refine wl_not rfl rfl rfl rfl rfl rfl ?_
          refine wl_not rfl rfl rfl rfl rfl rfl ?_
          refine wl_not rfl rfl rfl rfl rfl rfl ?_
          refine wl_v (ov_pick_t rfl rfl) rfl rfl rfl ?_
          refine wl_v (ov_move rfl) rfl rfl rfl ?_
          refine wl_not rfl rfl rfl rfl rfl rfl ?_
          refine wl_not rfl rfl rfl rfl rfl rfl ?_
          refine wl_not rfl rfl rfl rfl rfl rfl ?_
          refine wl_not rfl rfl rfl rfl rfl rfl ?_
          refine wl_v (ov_pick_t rfl rfl) rfl rfl rfl ?_
          refine wl_nil ?_
          refine ce_then ?_
          refine cw_true rfl ?_
          refine cw_seq ?_
          refine ct_none fI 3 1 ?_
          refine cw_region ?_
          refine wl_v (ov_assign rfl) rfl rfl rfl ?_
          refine wl_v (ov_assign rfl) rfl rfl rfl ?_
          refine wl_nil ?_
          refine ce_then ?_
          refine cw_ret ?_
          refine ce_then_ret ?_
          refine ce_results (v := .tuple #[.slice none (0) (0), .bool false]) (res2 rfl (rv_t rfl) (rv_t rfl)) (fun w' hw => ?_)
          exact ⟨none, 0, 0, (by rw [hv]; exact Nat.le_refl _), (by rw [hv] <;> rfl), ((.consE (show row 3 1 none (0) (0) (cells fI ([])) = row 3 1 none ((compV xs ys zs).1.length) (0) (cells fI ((compV xs ys zs).1)) by rw [hv] <;> rfl) (.head) (.nil) : Keep _ _).ss hw).to_new⟩
      ·
        have hv : compV xs ys zs = ([], false) := if_neg (fun h => c23 h.2.1.1)
        refine wl_go rfl rfl ?_
        refine wl_v (ov_not rfl) rfl rfl rfl ?_
        refine wl_v (ov_pick_f rfl rfl) rfl rfl rfl ?_
        refine wl_v (ov_move rfl) rfl rfl rfl ?_
        refine wl_not rfl rfl rfl rfl rfl rfl ?_
        refine wl_not rfl rfl rfl rfl rfl rfl ?_
        refine wl_not rfl rfl rfl rfl rfl rfl ?_
        refine wl_v (ov_pick_t rfl rfl) rfl rfl rfl ?_
        refine wl_v (ov_move rfl) rfl rfl rfl ?_
        refine wl_not rfl rfl rfl rfl rfl rfl ?_
        refine wl_not rfl rfl rfl rfl rfl rfl ?_
        refine wl_not rfl rfl rfl rfl rfl rfl ?_
        refine wl_not rfl rfl rfl rfl rfl rfl ?_
        refine wl_not rfl rfl rfl rfl rfl rfl ?_
        refine wl_not rfl rfl rfl rfl rfl rfl ?_
        refine wl_v (ov_pick_t rfl rfl) rfl rfl rfl ?_
        refine wl_v (ov_move rfl) rfl rfl rfl ?_
        refine wl_not rfl rfl rfl rfl rfl rfl ?_
        refine wl_not rfl rfl rfl rfl rfl rfl ?_
        refine wl_not rfl rfl rfl rfl rfl rfl ?_
        refine wl_not rfl rfl rfl rfl rfl rfl ?_
        refine wl_v (ov_pick_t rfl rfl) rfl rfl rfl ?_
        refine wl_nil ?_
        refine ce_then ?_
        refine cw_true rfl ?_
        refine cw_seq ?_
        refine ct_none fI 3 1 ?_
        refine cw_region ?_
        refine wl_v (ov_assign rfl) rfl rfl rfl ?_
        refine wl_v (ov_assign rfl) rfl rfl rfl ?_
        refine wl_nil ?_
        refine ce_then ?_
        refine cw_ret ?_
        refine ce_then_ret ?_
        refine ce_results (v := .tuple #[.slice none (0) (0), .bool false]) (res2 rfl (rv_t rfl) (rv_t rfl)) (fun w' hw => ?_)
        exact ⟨none, 0, 0, (by rw [hv]; exact Nat.le_refl _), (by rw [hv] <;> rfl), ((.consE (show row 3 1 none (0) (0) (cells fI ([])) = row 3 1 none ((compV xs ys zs).1.length) (0) (cells fI ((compV xs ys zs).1)) by rw [hv] <;> rfl) (.head) (.nil) : Keep _ _).ss hw).to_new⟩
    ·
      have hv : compV xs ys zs = ([], false) := if_neg (fun h => c18 h.1.2)
      refine wl_go rfl rfl ?_
      refine wl_v (ov_not rfl) rfl rfl rfl ?_
      refine wl_v (ov_pick_f rfl rfl) rfl rfl rfl ?_
      refine wl_v (ov_move rfl) rfl rfl rfl ?_
      refine wl_not rfl rfl rfl rfl rfl rfl ?_
      refine wl_not rfl rfl rfl rfl rfl rfl ?_
      refine wl_not rfl rfl rfl rfl rfl rfl ?_
      refine wl_v (ov_pick_t rfl rfl) rfl rfl rfl ?_
      refine wl_v (ov_move rfl) rfl rfl rfl ?_
      refine wl_not rfl rfl rfl rfl rfl rfl ?_
      refine wl_not rfl rfl rfl rfl rfl rfl ?_
      refine wl_not rfl rfl rfl rfl rfl rfl ?_
      refine wl_v (ov_pick_t rfl rfl) rfl rfl rfl ?_
      refine wl_v (ov_move rfl) rfl rfl rfl ?_
      refine wl_not rfl rfl rfl rfl rfl rfl ?_
      refine wl_not rfl rfl rfl rfl rfl rfl ?_
      refine wl_not rfl rfl rfl rfl rfl rfl ?_
      refine wl_not rfl rfl rfl rfl rfl rfl ?_
      refine wl_not rfl rfl rfl rfl rfl rfl ?_
      refine wl_not rfl rfl rfl rfl rfl rfl ?_
      refine wl_v (ov_pick_t rfl rfl) rfl rfl rfl ?_
      refine wl_v (ov_move rfl) rfl rfl rfl ?_
      refine wl_not rfl rfl rfl rfl rfl rfl ?_
      refine wl_not rfl rfl rfl rfl rfl rfl ?_
      refine wl_not rfl rfl rfl rfl rfl rfl ?_
      refine wl_not rfl rfl rfl rfl rfl rfl ?_
      refine wl_v (ov_pick_t rfl rfl) rfl rfl rfl ?_
      refine wl_nil ?_
      refine ce_then ?_
      refine cw_true rfl ?_
      refine cw_seq ?_
      refine ct_none fI 3 1 ?_
      refine cw_region ?_
      refine wl_v (ov_assign rfl) rfl rfl rfl ?_
      refine wl_v (ov_assign rfl) rfl rfl rfl ?_
      refine wl_nil ?_
      refine ce_then ?_
      refine cw_ret ?_
      refine ce_then_ret ?_
      refine ce_results (v := .tuple #[.slice none (0) (0), .bool false]) (res2 rfl (rv_t rfl) (rv_t rfl)) (fun w' hw => ?_)
      exact ⟨none, 0, 0, (by rw [hv]; exact Nat.le_refl _), (by rw [hv] <;> rfl), ((.consE (show row 3 1 none (0) (0) (cells fI ([])) = row 3 1 none ((compV xs ys zs).1.length) (0) (cells fI ((compV xs ys zs).1)) by rw [hv] <;> rfl) (.head) (.nil) : Keep _ _).ss hw).to_new⟩
  ·
    have hv : compV xs ys zs = ([], false) := if_neg (fun h => c14 h.1.1)
    refine wl_v (ov_not rfl) rfl rfl rfl ?_
    refine wl_v (ov_move rfl) rfl rfl rfl ?_
    refine wl_not rfl rfl rfl rfl rfl rfl ?_
    refine wl_not rfl rfl rfl rfl rfl rfl ?_
    refine wl_not rfl rfl rfl rfl rfl rfl ?_
    refine wl_v (ov_pick_t rfl rfl) rfl rfl rfl ?_
    refine wl_v (ov_move rfl) rfl rfl rfl ?_
    refine wl_not rfl rfl rfl rfl rfl rfl ?_
    refine wl_not rfl rfl rfl rfl rfl rfl ?_
    refine wl_not rfl rfl rfl rfl rfl rfl ?_
    refine wl_v (ov_pick_t rfl rfl) rfl rfl rfl ?_
    refine wl_v (ov_move rfl) rfl rfl rfl ?_
    refine wl_not rfl rfl rfl rfl rfl rfl ?_
    refine wl_not rfl rfl rfl rfl rfl rfl ?_
    refine wl_not rfl rfl rfl rfl rfl rfl ?_
    refine wl_v (ov_pick_t rfl rfl) rfl rfl rfl ?_
    refine wl_v (ov_move rfl) rfl rfl rfl ?_
    refine wl_not rfl rfl rfl rfl rfl rfl ?_
    refine wl_not rfl rfl rfl rfl rfl rfl ?_
    refine wl_not rfl rfl rfl rfl rfl rfl ?_
    refine wl_not rfl rfl rfl rfl rfl rfl ?_
    refine wl_not rfl rfl rfl rfl rfl rfl ?_
    refine wl_not rfl rfl rfl rfl rfl rfl ?_
    refine wl_v (ov_pick_t rfl rfl) rfl rfl rfl ?_
    refine wl_v (ov_move rfl) rfl rfl rfl ?_
    refine wl_not rfl rfl rfl rfl rfl rfl ?_
    refine wl_not rfl rfl rfl rfl rfl rfl ?_
    refine wl_not rfl rfl rfl rfl rfl rfl ?_
    refine wl_not rfl rfl rfl rfl rfl rfl ?_
    refine wl_v (ov_pick_t rfl rfl) rfl rfl rfl ?_
    refine wl_nil ?_
    refine ce_then ?_
    refine cw_true rfl ?_
    refine cw_seq ?_
    refine ct_none fI 3 1 ?_
    refine cw_region ?_
    refine wl_v (ov_assign rfl) rfl rfl rfl ?_
    refine wl_v (ov_assign rfl) rfl rfl rfl ?_
    refine wl_nil ?_
    refine ce_then ?_
    refine cw_ret ?_
    refine ce_then_ret ?_
    refine ce_results (v := .tuple #[.slice none (0) (0), .bool false]) (res2 rfl (rv_t rfl) (rv_t rfl)) (fun w' hw => ?_)
    exact ⟨none, 0, 0, (by rw [hv]; exact Nat.le_refl _), (by rw [hv] <;> rfl), ((.consE (show row 3 1 none (0) (0) (cells fI ([])) = row 3 1 none ((compV xs ys zs).1.length) (0) (cells fI ((compV xs ys zs).1)) by rw [hv] <;> rfl) (.head) (.nil) : Keep _ _).ss hw).to_new⟩
end Go.Proofs.Ytbdekdelieighab.W16
