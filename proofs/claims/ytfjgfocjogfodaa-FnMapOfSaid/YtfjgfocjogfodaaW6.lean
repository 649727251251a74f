/- Walks of functions of the given program: each returns what its Lean function says and leaves the memory that was there as it was. Conditions: those of each theorem. -/
import Derived.Test.YtfjgfocjogfodaaSm
import Derived.Test.YtfjgfocjogfodaaProg
import Derived.Test.YtfjgfocjogfodaaPl
import Derived.Test.YtfjgfocjogfodaaPo
import Derived.Test.YtfjgfocjogfodaaPd
import Derived.Test.YtfjgfocjogfodaaPe
import Derived.Test.YtfjgfocjogfodaaPh
import Derived.Test.YtfjgfocjogfodaaPm
import Derived.Test.YtfjgfocjogfodaaPc
import Derived.Test.YtfjgfocjogfodaaPs
import Derived.Test.YtfjgfocjogfodaaPt
import Derived.Test.YtfjgfocjogfodaaPu
import Derived.Test.YtfjgfocjogfodaaPv
import Derived.Test.YtfjgfocjogfodaaPw
import Derived.Test.YtfjgfocjogfodaaPx
import Derived.Test.YtfjgfocjogfodaaPy
import Derived.Test.YtfjgfocjogfodaaPz
import Derived.Test.YtfjgfocjogfodaaPr
import Derived.Test.YtfjgfocjogfodaaT
import Derived.KernelRfl
namespace Go.Proofs.Ytfjgfocjogfodaa.W6
open Go.Sx Go.RowKit Go.Proofs.Ytfjgfocjogfodaa.T
open Go.Plain
set_option linter.unusedVariables false
set_option maxRecDepth 100000 in
theorem copyInts_c (w : World) (A : Option Addr) (n : Nat) (c : Nat) (xs : List (Int)) (hA : At w A (cells fI xs)) (eA : xs.length = n) (lA : n ≤ c) (hs : xs.length ≤ 4000000) : Calls Try.prog 99 #[.slice A (n) (c)] w (Ret fun rv w' => ∃ A2 c2, (n ≤ c2) ∧ rv = .slice A2 (n) (c2) ∧ New w w' [row 3 1 A2 (n) (c2) (cells fI xs)]) := by
  have oA := hA.atB
  subst eA
  refine fn_enter (args := [.slice A (xs.length) (c)]) Try.func99 rfl Try.ntmps99 rfl (SS.start w) ?_
  refine cw_seq ?_
  refine cw_region ?_
  refine wl_v (ov_assign rfl) rfl rfl rfl ?_
  refine wl_nil ?_
  refine ce_then ?_
  refine cw_seq ?_
  refine cw_region ?_
  refine wl_r (or_buildSlice (e := 3) (size := 1) (is := []) (vs := []) (cs := cells fI ([])) rfl rfl rfl (by decide) (fun _ => by kernel_rfl)) rfl rfl (kt1 rfl (fun g3 => ?_))
  refine wl_v (ov_move rfl) rfl rfl rfl ?_
  refine wl_r (or_append (c2 := c) sI31 tI3 rfl (by decide) rfl rfl (.head) (holds_old oA) (by rw [cells_length fI_len]; try simp) (one_cells fI_one _) cells_append (by omega) (by omega)) rfl rfl (kt2p rfl (fun A5 c5 h5 => ?_))
  refine wl_v (ov_assign rfl) rfl rfl rfl ?_
  refine wl_nil ?_
  refine ce_then ?_
  refine cw_ret ?_
  refine ce_results (v := .slice A5 (0 + xs.length) (c5)) (res1 rfl (rv_t rfl)) (fun w' hw => ?_)
  exact ⟨A5, c5, (by omega), (by simp), ((.consE (show row 3 1 A5 (0 + xs.length) (c5) (cells fI (([]) ++ xs)) = row 3 1 A5 (xs.length) (c5) (cells fI xs) by simp) (.head) (.nil) : Keep _ _).ss hw).to_new⟩
set_option maxRecDepth 100000 in
theorem fallingS_c (w : World) (A : Option Addr) (n : Nat) (c : Nat) (xs : List (Int)) (hA : At w A (cells fI xs)) (eA : xs.length = n) (lA : n ≤ c) (hs : xs.length ≤ 1000) : Calls Try.prog 131 #[.slice A (n) (c)] w (Ret fun rv w' => ∃ A2 c2, (n ≤ c2) ∧ rv = .slice A2 (n) (c2) ∧ New w w' [row 3 1 A2 (n) (c2) (cells fI (fall xs))]) := by
  have oA := hA.atB
  subst eA
  refine fn_enter (args := [.slice A (xs.length) (c)]) Try.func131 rfl Try.ntmps131 rfl (SS.start w) ?_
  refine cw_seq ?_
  refine cw_region ?_
  refine wl_v (ov_assign rfl) rfl rfl rfl ?_
  refine wl_nil ?_
  refine ce_then ?_
  refine cw_seq ?_
  refine cw_region ?_
  refine wl_r (or_buildSlice (e := 3) (size := 1) (is := []) (vs := []) (cs := cells fI ([])) rfl rfl rfl (by decide) (fun _ => by kernel_rfl)) rfl rfl (kt1 rfl (fun g6 => ?_))
  refine wl_v (ov_assign rfl) rfl rfl rfl ?_
  refine wl_nil ?_
  refine ce_then ?_
  refine cw_seq ?_
  refine cw_seq ?_
  refine cw_region ?_
  refine wl_v (ov_assign rfl) rfl rfl rfl ?_
  refine wl_nil ?_
  refine ce_then ?_
  refine cw_block ?_
  refine cw_loop3 (fun (k : Nat) (A2 : Option Addr) (c2 : Nat) => [(0, .slice A (xs.length) (c)), (2, .slice none (0) (0)), (3, .slice A2 (k) (c2)), (4, .int .i64 (((k : Nat) : Int)))]) (fun (k : Nat) (A2 : Option Addr) (c2 : Nat) => [row 3 1 A2 (k) (c2) (cells fI (fall (xs.take k)))]) (fun (k : Nat) (A2 : Option Addr) (c2 : Nat) => k ≤ xs.length ∧ k ≤ c2) (fun (k : Nat) (A2 : Option Addr) (c2 : Nat) => xs.length - k) 0 (some ⟨g6, 0, none⟩) 0 ⟨by omega, Nat.le_refl _⟩ (.cons rfl (.cons rfl (.cons rfl (.cons (congrArg (fun z => some (Value.int .i64 z)) (show 0 = ((0 : Nat) : Int) by first | omega | rfl | (simp; done))) (.nil))))) (.consE (show row 3 1 (some ⟨g6, 0, none⟩) (0) (0) (cells fI ([])) = row 3 1 (some ⟨g6, 0, none⟩) (0) (0) (cells fI (fall (xs.take 0))) by rfl) (.head) (.nil)) ?_
  intro R0 k A2 c2 hk hR0
  obtain ⟨hk1, hk2⟩ := hk
  have hfl : (fall (xs.take k)).length = k := by rw [fall_length, List.length_take]; omega
  refine cw_seq ?_
  refine cw_seq ?_
  refine cw_region ?_
  refine wl_v (ov_move rfl) rfl rfl rfl ?_
  refine wl_v (ov_move rfl) rfl rfl rfl ?_
  refine wl_v (ov_len (sliceI_spec sI31) rfl) rfl rfl rfl ?_
  refine wl_if (ov_lss rfl rfl) rfl rfl rfl (fun c10 => ?_) (fun c10 => ?_)
  ·
    refine wl_nil ?_
    refine ce_then ?_
    refine cw_true rfl ?_
    refine cw_skip ?_
    refine ce_then ?_
    refine cw_seq ?_
    refine cw_block ?_
    refine cw_seq ?_
    refine cw_region ?_
    refine wl_v (ov_assign rfl) rfl rfl rfl ?_
    refine wl_nil ?_
    refine ce_then ?_
    refine cw_seq ?_
    refine cw_block ?_
    refine cw_loop1 (fun (p : Nat) => [(0, .slice A (xs.length) (c)), (2, .slice none (0) (0)), (3, .slice A2 (k) (c2)), (4, .int .i64 (((k : Nat) : Int))), (5, .int .i64 (((p : Nat) : Int)))]) (fun (p : Nat) => [row 3 1 A2 (k) (c2) (cells fI (fall (xs.take k)))]) (fun (p : Nat) => p ≤ k ∧ ∀ y ∈ (fall (xs.take k)).take p, xs.getD k 0 ≤ y) (fun (p : Nat) => k - p) 0 ⟨by omega, by simp⟩ (.cons rfl (.cons rfl (.cons rfl (.cons rfl (.cons (congrArg (fun z => some (Value.int .i64 z)) (show 0 = ((0 : Nat) : Int) by first | omega | rfl | (simp; done))) (.nil)))))) (.cons (.head) (.nil)) ?_
    intro R1 p hk1 hR1
    obtain ⟨hp1, hp2⟩ := hk1
    refine cw_seq ?_
    refine cw_seq ?_
    refine cw_draw mixO [] (.cons (.head) (.nil)) rfl ?_
    refine wg_takep (i := 0) rfl (ov_move rfl) rfl rfl rfl (by kernel_rfl) (by kernel_rfl) (by kernel_rfl) rfl ?_
    refine wg_takep (i := 1) rfl (ov_move rfl) rfl rfl rfl (by kernel_rfl) (by kernel_rfl) (by kernel_rfl) rfl ?_
    refine wg_takep (i := 2) rfl (ov_len (sliceI_spec sI31) rfl) rfl rfl rfl (by kernel_rfl) (by kernel_rfl) (by kernel_rfl) rfl ?_
    refine wg_takep_if (i := 3) rfl (ov_lss rfl rfl) rfl rfl rfl (by kernel_rfl) (by kernel_rfl) (by kernel_rfl) rfl (fun c16 => ?_) (fun c16 => ?_)
    ·
      refine wg_takep (i := 4) rfl (ov_move rfl) rfl rfl rfl (by kernel_rfl) (by kernel_rfl) (by kernel_rfl) rfl ?_
      refine wg_take_go (i := 5) rfl rfl rfl (ov_move rfl) rfl (by kernel_rfl) (by kernel_rfl) (by kernel_rfl) (by kernel_rfl) ?_
      refine wg_take_go (i := 6) rfl rfl rfl (ov_move rfl) rfl (by kernel_rfl) (by kernel_rfl) (by kernel_rfl) (by kernel_rfl) ?_
      refine wg_take_go (i := 7) rfl rfl rfl (ov_index (k := p) (c := c2) sI31 tI3 rfl rfl (some_holds (q := p * 1) (holds_row (List.Mem.head _)) (by rw [cells_length fI_len]; have hlt : p < (fall (xs.take k)).length := (by omega); omega)) (show p < k from (by omega))) rfl (by kernel_rfl) (by kernel_rfl) (by kernel_rfl) (by kernel_rfl) ?_
      refine wg_take_go (i := 8) rfl rfl rfl (ov_load tI3 (holds_row (List.Mem.head _)) rfl (get_fI (show p < (fall (xs.take k)).length from (by omega)))) rfl (by kernel_rfl) (by kernel_rfl) (by kernel_rfl) (by kernel_rfl) ?_
      refine wg_take_go (i := 9) rfl rfl rfl (ov_move rfl) rfl (by kernel_rfl) (by kernel_rfl) (by kernel_rfl) (by kernel_rfl) ?_
      refine wg_take_go (i := 10) rfl rfl rfl (ov_move rfl) rfl (by kernel_rfl) (by kernel_rfl) (by kernel_rfl) (by kernel_rfl) ?_
      refine wg_take_go (i := 11) rfl rfl rfl (ov_index (k := k) (c := c) sI31 tI3 rfl rfl (some_holds (q := k * 1) (holds_old oA) (by rw [cells_length fI_len]; have hlt : k < xs.length := (by first | omega | (simp; omega)); omega)) (show k < xs.length from (by first | omega | (simp; omega)))) rfl (by kernel_rfl) (by kernel_rfl) (by kernel_rfl) (by kernel_rfl) ?_
      refine wg_take_go (i := 12) rfl rfl rfl (ov_load tI3 (holds_old oA) rfl (get_fI (show k < xs.length from (by first | omega | (simp; omega))))) rfl (by kernel_rfl) (by kernel_rfl) (by kernel_rfl) (by kernel_rfl) ?_
      refine wg_take_go_if (i := 13) rfl rfl rfl (ov_geq rfl rfl) rfl (by kernel_rfl) (by kernel_rfl) (by kernel_rfl) (by kernel_rfl) (fun c26 => ?_) (fun c26 => ?_)
      ·
        refine wg_takep (i := 14) rfl (ov_pick_t rfl rfl) rfl rfl rfl (by kernel_rfl) (by kernel_rfl) (by kernel_rfl) rfl ?_
        refine wg_done (by kernel_rfl) ?_
        refine ce_then ?_
        refine cw_true rfl ?_
        refine cw_skip ?_
        refine ce_then ?_
        refine cw_block ?_
        refine cw_region ?_
        refine wl_v (ov_move rfl) rfl rfl rfl ?_
        refine wl_v (ov_add (r := ((p + 1 : Nat) : Int)) rfl rfl rfl (by omega)) rfl rfl rfl ?_
        refine wl_v (ov_assign rfl) rfl rfl rfl ?_
        refine wl_nil ?_
        refine ce_block ?_
        exact fun ac_ w_ hs_ => hR1 (p + 1) ⟨by omega, all_take_step 0 (by omega) hp2 (by omega)⟩ (by omega) ac_ w_ (hs_.weaken (.cons rfl (.cons rfl (.cons rfl (.cons rfl (.cons rfl (.nil)))))) (.cons (.head) (.nil)))
      ·
        have hp : p = posG (fall (xs.take k)) (xs.getD k 0) := posG_eq (by omega) hp2 (fun _ => by omega)
        refine wg_takep (i := 14) rfl (ov_pick_t rfl rfl) rfl rfl rfl (by kernel_rfl) (by kernel_rfl) (by kernel_rfl) rfl ?_
        refine wg_done (by kernel_rfl) ?_
        refine ce_then ?_
        refine cw_false rfl ?_
        refine cw_exit ?_
        refine ce_then_exit ?_
        refine ce_then_exit ?_
        refine ce_hit ?_
        refine ce_then ?_
        refine cw_draw mixO [] (.cons (.head) (.nil)) rfl ?_
        refine wg_takep (i := 0) rfl (ov_move rfl) rfl rfl rfl (by kernel_rfl) (by kernel_rfl) (by kernel_rfl) rfl ?_
        refine wg_takep (i := 1) rfl (ov_move rfl) rfl rfl rfl (by kernel_rfl) (by kernel_rfl) (by kernel_rfl) rfl ?_
        refine wg_takep (i := 2) rfl (ov_slice_h (h := p) sI31 tI3 rfl rfl (by omega)) rfl rfl rfl (by kernel_rfl) (by kernel_rfl) (by kernel_rfl) rfl ?_
        refine wg_takep (i := 4) rfl (ov_move rfl) rfl rfl rfl (by kernel_rfl) (by kernel_rfl) (by kernel_rfl) rfl ?_
        refine wg_takep (i := 5) rfl (ov_move rfl) rfl rfl rfl (by kernel_rfl) (by kernel_rfl) (by kernel_rfl) rfl ?_
        refine wg_take (i := 6) rfl (ov_index (k := k) (c := c) sI31 tI3 rfl rfl (some_holds (q := k * 1) (holds_old oA) (by rw [cells_length fI_len]; have hlt : k < xs.length := (by first | omega | (simp; omega)); omega)) (show k < xs.length from (by first | omega | (simp; omega)))) rfl rfl rfl (by kernel_rfl) (by kernel_rfl) (by kernel_rfl) (by kernel_rfl) ?_
        refine wg_take (i := 7) rfl (ov_load tI3 (holds_old oA) rfl (get_fI (show k < xs.length from (by first | omega | (simp; omega))))) rfl rfl rfl (by kernel_rfl) (by kernel_rfl) (by kernel_rfl) (by kernel_rfl) ?_
        refine wg_takep (i := 10) rfl (ov_move rfl) rfl rfl rfl (by kernel_rfl) (by kernel_rfl) (by kernel_rfl) rfl ?_
        refine wg_takep (i := 11) rfl (ov_move rfl) rfl rfl rfl (by kernel_rfl) (by kernel_rfl) (by kernel_rfl) rfl ?_
        refine wg_takep (i := 12) rfl (ov_slice_l (l := p) sI31 tI3 rfl rfl (by omega)) rfl rfl rfl (by kernel_rfl) (by kernel_rfl) (by kernel_rfl) rfl ?_
        refine wg_two (i := 3) (j := 8) (by kernel_rfl) ?_ ?_
        ·
          refine go_r rfl rfl rfl rfl (or_call (fv := []) (vs := [.slice A2 (p) (c2)]) (cs := []) en99 rfl rfl (call_x2 (fun w hw => copyInts_c w A2 p c2 ((fall (xs.take k)).take p) ((holds_takeC (k := p) fI_len (holds_row (List.Mem.head _))) w hw) (by rw [List.length_take]; omega) (by omega) (by rw [List.length_take]; omega)))) (kt2p rfl (fun A2_33 c2_33 h_33 => ?_))
          refine gk (.cons (.tail .head) (.nil)) ?_
          refine wg_one (i := 8) (by kernel_rfl) ?_
          refine go_r rfl rfl rfl rfl (or_buildSlice (e := 3) (size := 1) (is := [0]) (vs := [.int .i64 ((xs.getD k 0))]) (cs := cells fI ([(xs.getD k 0)])) rfl rfl rfl (by decide) (fun _ => by kernel_rfl)) (kt1 rfl (fun g38 => ?_))
          refine gk (.cons (.tail (.tail .head)) (.nil)) ?_
          refine wg_one (i := 9) (by kernel_rfl) ?_
          refine go_r rfl rfl rfl rfl (or_append (c2 := 1) sI31 tI3 rfl (by decide) rfl rfl (.tail .head) (holds_row (List.Mem.head _)) (by rw [cells_length fI_len]; try simp) (one_cells fI_one _) cells_append (by omega) (by omega)) (kt2p rfl (fun A39 c39 h39 => ?_))
          refine gk (.cons (.tail (.tail .head)) (.nil)) ?_
          refine wg_one (i := 13) (by kernel_rfl) ?_
          refine go_r rfl rfl rfl rfl (or_append (c2 := c2 - p) sI31 tI3 rfl (by decide) rfl rfl (.head) (holds_dropC (l := p) fI_len (holds_row (List.Mem.tail _ (List.Mem.tail _ (List.Mem.head _)))) (by first | exact hk2 | omega)) (by rw [cells_length fI_len, List.length_drop]; omega) (one_cells fI_one _) cells_append (by omega) (by omega)) (kt2p rfl (fun A43 c43 h43 => ?_))
          refine gk (.cons (.tail (.tail .head)) (.nil)) ?_
          refine wg_takep (i := 14) rfl (ov_assign rfl) rfl rfl rfl (by kernel_rfl) (by kernel_rfl) (by kernel_rfl) rfl ?_
          refine wg_done (by kernel_rfl) ?_
          refine ce_block ?_
          refine ce_then ?_
          refine cw_region ?_
          refine wl_v (ov_move rfl) rfl rfl rfl ?_
          refine wl_v (ov_add (r := ((k + 1 : Nat) : Int)) rfl rfl rfl (by omega)) rfl rfl rfl ?_
          refine wl_v (ov_assign rfl) rfl rfl rfl ?_
          refine wl_nil ?_
          exact fun ac_ w_ hs_ => hR0 (k + 1) A43 c43 ⟨by omega, by omega⟩ (by omega) ac_ w_ (hs_.weaken (.cons rfl (.cons rfl (.cons (congrArg (fun z => some (Value.slice A43 z c43)) (show p + 1 + (k - p) = k + 1 by omega)) (.cons rfl (.nil))))) (.consE (show row 3 1 A43 ((p + 1) + (k - p)) (c43) (cells fI ((((fall (xs.take k)).take p) ++ ([(xs.getD k 0)])) ++ ((fall (xs.take k)).drop p))) = row 3 1 A43 ((k + 1)) (c43) (cells fI (fall (xs.take (k + 1)))) by rw [show p + 1 + (k - p) = k + 1 from by omega]; exact congrArg (fun z => row 3 1 A43 (k + 1) (c43) (cells fI z)) (by rw [fall_take (by omega), insG, ← hp]; simp)) (.head) (.nil)))
        ·
          refine go_r rfl rfl rfl rfl (or_buildSlice (e := 3) (size := 1) (is := [0]) (vs := [.int .i64 ((xs.getD k 0))]) (cs := cells fI ([(xs.getD k 0)])) rfl rfl rfl (by decide) (fun _ => by kernel_rfl)) (kt1 rfl (fun g38 => ?_))
          refine gk (.cons (.tail .head) (.nil)) ?_
          refine wg_one (i := 3) (by kernel_rfl) ?_
          refine go_r rfl rfl rfl rfl (or_call (fv := []) (vs := [.slice A2 (p) (c2)]) (cs := []) en99 rfl rfl (call_x2 (fun w hw => copyInts_c w A2 p c2 ((fall (xs.take k)).take p) ((holds_takeC (k := p) fI_len (holds_row (List.Mem.tail _ (List.Mem.head _)))) w hw) (by rw [List.length_take]; omega) (by omega) (by rw [List.length_take]; omega)))) (kt2p rfl (fun A2_33 c2_33 h_33 => ?_))
          refine gk (.cons (.tail (.tail .head)) (.nil)) ?_
          refine wg_one (i := 9) (by kernel_rfl) ?_
          refine go_r rfl rfl rfl rfl (or_append (c2 := 1) sI31 tI3 rfl (by decide) rfl rfl (.head) (holds_row (List.Mem.tail _ (List.Mem.head _))) (by rw [cells_length fI_len]; try simp) (one_cells fI_one _) cells_append (by omega) (by omega)) (kt2p rfl (fun A39 c39 h39 => ?_))
          refine gk (.cons (.tail (.tail .head)) (.nil)) ?_
          refine wg_one (i := 13) (by kernel_rfl) ?_
          refine go_r rfl rfl rfl rfl (or_append (c2 := c2 - p) sI31 tI3 rfl (by decide) rfl rfl (.head) (holds_dropC (l := p) fI_len (holds_row (List.Mem.tail _ (List.Mem.tail _ (List.Mem.head _)))) (by first | exact hk2 | omega)) (by rw [cells_length fI_len, List.length_drop]; omega) (one_cells fI_one _) cells_append (by omega) (by omega)) (kt2p rfl (fun A43 c43 h43 => ?_))
          refine gk (.cons (.tail (.tail .head)) (.nil)) ?_
          refine wg_takep (i := 14) rfl (ov_assign rfl) rfl rfl rfl (by kernel_rfl) (by kernel_rfl) (by kernel_rfl) rfl ?_
          refine wg_done (by kernel_rfl) ?_
          refine ce_block ?_
          refine ce_then ?_
          refine cw_region ?_
          refine wl_v (ov_move rfl) rfl rfl rfl ?_
          refine wl_v (ov_add (r := ((k + 1 : Nat) : Int)) rfl rfl rfl (by omega)) rfl rfl rfl ?_
          refine wl_v (ov_assign rfl) rfl rfl rfl ?_
          refine wl_nil ?_
          exact fun ac_ w_ hs_ => hR0 (k + 1) A43 c43 ⟨by omega, by omega⟩ (by omega) ac_ w_ (hs_.weaken (.cons rfl (.cons rfl (.cons (congrArg (fun z => some (Value.slice A43 z c43)) (show p + 1 + (k - p) = k + 1 by omega)) (.cons rfl (.nil))))) (.consE (show row 3 1 A43 ((p + 1) + (k - p)) (c43) (cells fI ((((fall (xs.take k)).take p) ++ ([(xs.getD k 0)])) ++ ((fall (xs.take k)).drop p))) = row 3 1 A43 ((k + 1)) (c43) (cells fI (fall (xs.take (k + 1)))) by rw [show p + 1 + (k - p) = k + 1 from by omega]; exact congrArg (fun z => row 3 1 A43 (k + 1) (c43) (cells fI z)) (by rw [fall_take (by omega), insG, ← hp]; simp)) (.head) (.nil)))
    ·
      have hp : p = posG (fall (xs.take k)) (xs.getD k 0) := posG_eq (by omega) hp2 (fun h => absurd h (by omega))
      refine wg_takep (i := 4) rfl (ov_move rfl) rfl rfl rfl (by kernel_rfl) (by kernel_rfl) (by kernel_rfl) rfl ?_
      refine wg_take_not (i := 5) rfl rfl rfl rfl rfl (by kernel_rfl) (by kernel_rfl) (by kernel_rfl) (by kernel_rfl) ?_
      refine wg_take_not (i := 6) rfl rfl rfl rfl rfl (by kernel_rfl) (by kernel_rfl) (by kernel_rfl) (by kernel_rfl) ?_
      refine wg_take_not (i := 7) rfl rfl rfl rfl rfl (by kernel_rfl) (by kernel_rfl) (by kernel_rfl) (by kernel_rfl) ?_
      refine wg_take_not (i := 8) rfl rfl rfl rfl rfl (by kernel_rfl) (by kernel_rfl) (by kernel_rfl) (by kernel_rfl) ?_
      refine wg_take_not (i := 9) rfl rfl rfl rfl rfl (by kernel_rfl) (by kernel_rfl) (by kernel_rfl) (by kernel_rfl) ?_
      refine wg_take_not (i := 10) rfl rfl rfl rfl rfl (by kernel_rfl) (by kernel_rfl) (by kernel_rfl) (by kernel_rfl) ?_
      refine wg_take_not (i := 11) rfl rfl rfl rfl rfl (by kernel_rfl) (by kernel_rfl) (by kernel_rfl) (by kernel_rfl) ?_
      refine wg_take_not (i := 12) rfl rfl rfl rfl rfl (by kernel_rfl) (by kernel_rfl) (by kernel_rfl) (by kernel_rfl) ?_
      refine wg_take_not (i := 13) rfl rfl rfl rfl rfl (by kernel_rfl) (by kernel_rfl) (by kernel_rfl) (by kernel_rfl) ?_
      refine wg_takep (i := 14) rfl (ov_pick_f rfl rfl) rfl rfl rfl (by kernel_rfl) (by kernel_rfl) (by kernel_rfl) rfl ?_
      refine wg_done (by kernel_rfl) ?_
      refine ce_then ?_
      refine cw_false rfl ?_
      refine cw_exit ?_
      refine ce_then_exit ?_
      refine ce_then_exit ?_
      refine ce_hit ?_
      refine ce_then ?_
      refine cw_draw mixO [] (.cons (.head) (.nil)) rfl ?_
      refine wg_takep (i := 0) rfl (ov_move rfl) rfl rfl rfl (by kernel_rfl) (by kernel_rfl) (by kernel_rfl) rfl ?_
      refine wg_takep (i := 1) rfl (ov_move rfl) rfl rfl rfl (by kernel_rfl) (by kernel_rfl) (by kernel_rfl) rfl ?_
      refine wg_takep (i := 2) rfl (ov_slice_h (h := p) sI31 tI3 rfl rfl (by omega)) rfl rfl rfl (by kernel_rfl) (by kernel_rfl) (by kernel_rfl) rfl ?_
      refine wg_takep (i := 4) rfl (ov_move rfl) rfl rfl rfl (by kernel_rfl) (by kernel_rfl) (by kernel_rfl) rfl ?_
      refine wg_takep (i := 5) rfl (ov_move rfl) rfl rfl rfl (by kernel_rfl) (by kernel_rfl) (by kernel_rfl) rfl ?_
      refine wg_take (i := 6) rfl (ov_index (k := k) (c := c) sI31 tI3 rfl rfl (some_holds (q := k * 1) (holds_old oA) (by rw [cells_length fI_len]; have hlt : k < xs.length := (by first | omega | (simp; omega)); omega)) (show k < xs.length from (by first | omega | (simp; omega)))) rfl rfl rfl (by kernel_rfl) (by kernel_rfl) (by kernel_rfl) (by kernel_rfl) ?_
      refine wg_take (i := 7) rfl (ov_load tI3 (holds_old oA) rfl (get_fI (show k < xs.length from (by first | omega | (simp; omega))))) rfl rfl rfl (by kernel_rfl) (by kernel_rfl) (by kernel_rfl) (by kernel_rfl) ?_
      refine wg_takep (i := 10) rfl (ov_move rfl) rfl rfl rfl (by kernel_rfl) (by kernel_rfl) (by kernel_rfl) rfl ?_
      refine wg_takep (i := 11) rfl (ov_move rfl) rfl rfl rfl (by kernel_rfl) (by kernel_rfl) (by kernel_rfl) rfl ?_
      refine wg_takep (i := 12) rfl (ov_slice_l (l := p) sI31 tI3 rfl rfl (by omega)) rfl rfl rfl (by kernel_rfl) (by kernel_rfl) (by kernel_rfl) rfl ?_
      refine wg_two (i := 3) (j := 8) (by kernel_rfl) ?_ ?_
      ·
        refine go_r rfl rfl rfl rfl (or_call (fv := []) (vs := [.slice A2 (p) (c2)]) (cs := []) en99 rfl rfl (call_x2 (fun w hw => copyInts_c w A2 p c2 ((fall (xs.take k)).take p) ((holds_takeC (k := p) fI_len (holds_row (List.Mem.head _))) w hw) (by rw [List.length_take]; omega) (by omega) (by rw [List.length_take]; omega)))) (kt2p rfl (fun A2_33 c2_33 h_33 => ?_))
        refine gk (.cons (.tail .head) (.nil)) ?_
        refine wg_one (i := 8) (by kernel_rfl) ?_
        refine go_r rfl rfl rfl rfl (or_buildSlice (e := 3) (size := 1) (is := [0]) (vs := [.int .i64 ((xs.getD k 0))]) (cs := cells fI ([(xs.getD k 0)])) rfl rfl rfl (by decide) (fun _ => by kernel_rfl)) (kt1 rfl (fun g38 => ?_))
        refine gk (.cons (.tail (.tail .head)) (.nil)) ?_
        refine wg_one (i := 9) (by kernel_rfl) ?_
        refine go_r rfl rfl rfl rfl (or_append (c2 := 1) sI31 tI3 rfl (by decide) rfl rfl (.tail .head) (holds_row (List.Mem.head _)) (by rw [cells_length fI_len]; try simp) (one_cells fI_one _) cells_append (by omega) (by omega)) (kt2p rfl (fun A39 c39 h39 => ?_))
        refine gk (.cons (.tail (.tail .head)) (.nil)) ?_
        refine wg_one (i := 13) (by kernel_rfl) ?_
        refine go_r rfl rfl rfl rfl (or_append (c2 := c2 - p) sI31 tI3 rfl (by decide) rfl rfl (.head) (holds_dropC (l := p) fI_len (holds_row (List.Mem.tail _ (List.Mem.tail _ (List.Mem.head _)))) (by first | exact hk2 | omega)) (by rw [cells_length fI_len, List.length_drop]; omega) (one_cells fI_one _) cells_append (by omega) (by omega)) (kt2p rfl (fun A43 c43 h43 => ?_))
        refine gk (.cons (.tail (.tail .head)) (.nil)) ?_
        refine wg_takep (i := 14) rfl (ov_assign rfl) rfl rfl rfl (by kernel_rfl) (by kernel_rfl) (by kernel_rfl) rfl ?_
        refine wg_done (by kernel_rfl) ?_
        refine ce_block ?_
        refine ce_then ?_
        refine cw_region ?_
        refine wl_v (ov_move rfl) rfl rfl rfl ?_
        refine wl_v (ov_add (r := ((k + 1 : Nat) : Int)) rfl rfl rfl (by omega)) rfl rfl rfl ?_
        refine wl_v (ov_assign rfl) rfl rfl rfl ?_
        refine wl_nil ?_
        exact fun ac_ w_ hs_ => hR0 (k + 1) A43 c43 ⟨by omega, by omega⟩ (by omega) ac_ w_ (hs_.weaken (.cons rfl (.cons rfl (.cons (congrArg (fun z => some (Value.slice A43 z c43)) (show p + 1 + (k - p) = k + 1 by omega)) (.cons rfl (.nil))))) (.consE (show row 3 1 A43 ((p + 1) + (k - p)) (c43) (cells fI ((((fall (xs.take k)).take p) ++ ([(xs.getD k 0)])) ++ ((fall (xs.take k)).drop p))) = row 3 1 A43 ((k + 1)) (c43) (cells fI (fall (xs.take (k + 1)))) by rw [show p + 1 + (k - p) = k + 1 from by omega]; exact congrArg (fun z => row 3 1 A43 (k + 1) (c43) (cells fI z)) (by rw [fall_take (by omega), insG, ← hp]; simp)) (.head) (.nil)))
      ·
        refine go_r rfl rfl rfl rfl (or_buildSlice (e := 3) (size := 1) (is := [0]) (vs := [.int .i64 ((xs.getD k 0))]) (cs := cells fI ([(xs.getD k 0)])) rfl rfl rfl (by decide) (fun _ => by kernel_rfl)) (kt1 rfl (fun g38 => ?_))
        refine gk (.cons (.tail .head) (.nil)) ?_
        refine wg_one (i := 3) (by kernel_rfl) ?_
        refine go_r rfl rfl rfl rfl (or_call (fv := []) (vs := [.slice A2 (p) (c2)]) (cs := []) en99 rfl rfl (call_x2 (fun w hw => copyInts_c w A2 p c2 ((fall (xs.take k)).take p) ((holds_takeC (k := p) fI_len (holds_row (List.Mem.tail _ (List.Mem.head _)))) w hw) (by rw [List.length_take]; omega) (by omega) (by rw [List.length_take]; omega)))) (kt2p rfl (fun A2_33 c2_33 h_33 => ?_))
        refine gk (.cons (.tail (.tail .head)) (.nil)) ?_
        refine wg_one (i := 9) (by kernel_rfl) ?_
        refine go_r rfl rfl rfl rfl (or_append (c2 := 1) sI31 tI3 rfl (by decide) rfl rfl (.head) (holds_row (List.Mem.tail _ (List.Mem.head _))) (by rw [cells_length fI_len]; try simp) (one_cells fI_one _) cells_append (by omega) (by omega)) (kt2p rfl (fun A39 c39 h39 => ?_))
        refine gk (.cons (.tail (.tail .head)) (.nil)) ?_
        refine wg_one (i := 13) (by kernel_rfl) ?_
        refine go_r rfl rfl rfl rfl (or_append (c2 := c2 - p) sI31 tI3 rfl (by decide) rfl rfl (.head) (holds_dropC (l := p) fI_len (holds_row (List.Mem.tail _ (List.Mem.tail _ (List.Mem.head _)))) (by first | exact hk2 | omega)) (by rw [cells_length fI_len, List.length_drop]; omega) (one_cells fI_one _) cells_append (by omega) (by omega)) (kt2p rfl (fun A43 c43 h43 => ?_))
        refine gk (.cons (.tail (.tail .head)) (.nil)) ?_
        refine wg_takep (i := 14) rfl (ov_assign rfl) rfl rfl rfl (by kernel_rfl) (by kernel_rfl) (by kernel_rfl) rfl ?_
        refine wg_done (by kernel_rfl) ?_
        refine ce_block ?_
        refine ce_then ?_
        refine cw_region ?_
        refine wl_v (ov_move rfl) rfl rfl rfl ?_
        refine wl_v (ov_add (r := ((k + 1 : Nat) : Int)) rfl rfl rfl (by omega)) rfl rfl rfl ?_
        refine wl_v (ov_assign rfl) rfl rfl rfl ?_
        refine wl_nil ?_
        exact fun ac_ w_ hs_ => hR0 (k + 1) A43 c43 ⟨by omega, by omega⟩ (by omega) ac_ w_ (hs_.weaken (.cons rfl (.cons rfl (.cons (congrArg (fun z => some (Value.slice A43 z c43)) (show p + 1 + (k - p) = k + 1 by omega)) (.cons rfl (.nil))))) (.consE (show row 3 1 A43 ((p + 1) + (k - p)) (c43) (cells fI ((((fall (xs.take k)).take p) ++ ([(xs.getD k 0)])) ++ ((fall (xs.take k)).drop p))) = row 3 1 A43 ((k + 1)) (c43) (cells fI (fall (xs.take (k + 1)))) by rw [show p + 1 + (k - p) = k + 1 from by omega]; exact congrArg (fun z => row 3 1 A43 (k + 1) (c43) (cells fI z)) (by rw [fall_take (by omega), insG, ← hp]; simp)) (.head) (.nil)))
  ·
    refine wl_nil ?_
    refine ce_then ?_
    refine cw_false rfl ?_
    refine cw_exit ?_
    refine ce_then_exit ?_
    refine ce_then_exit ?_
    refine ce_hit ?_
    refine ce_then ?_
    refine cw_seq ?_
    refine cw_region ?_
    refine wl_v (ov_move rfl) rfl rfl rfl ?_
    refine wl_v (ov_assign rfl) rfl rfl rfl ?_
    refine wl_nil ?_
    refine ce_then ?_
    refine cw_ret ?_
    refine ce_results (v := .slice A2 (k) (c2)) (res1 rfl (rv_t rfl)) (fun w' hw => ?_)
    exact ⟨A2, c2, (by omega), (by rw [show xs.length = k from by omega]), ((.consE (show row 3 1 A2 (k) (c2) (cells fI (fall (xs.take k))) = row 3 1 A2 (xs.length) (c2) (cells fI (fall xs)) by rw [List.take_of_length_le (by omega), show xs.length = k from by omega]) (.head) (.nil) : Keep _ _).ss hw).to_new⟩
end Go.Proofs.Ytfjgfocjogfodaa.W6
