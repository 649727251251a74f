/- Walks of functions of the given program: each returns what its Lean function says and leaves the memory that was there as it was. Conditions: those of each theorem. -/
import Derived.Test.YtlmohafmpgpnaabSy
import Derived.Test.YtlmohafmpgpnaabProg
import Derived.Test.YtlmohafmpgpnaabPl
import Derived.Test.YtlmohafmpgpnaabPo
import Derived.Test.YtlmohafmpgpnaabPd
import Derived.Test.YtlmohafmpgpnaabPe
import Derived.Test.YtlmohafmpgpnaabSo
import Derived.Test.YtlmohafmpgpnaabSh
import Derived.Test.YtlmohafmpgpnaabT
import Derived.Test.YtlmohafmpgpnaabW1
import Derived.Test.YtlmohafmpgpnaabW2
import Derived.Test.YtlmohafmpgpnaabW3
import Derived.Test.YtlmohafmpgpnaabW5
import Derived.Test.YtlmohafmpgpnaabW6
import Derived.Test.YtlmohafmpgpnaabW7
import Derived.KernelRfl
namespace Go.Proofs.Ytlmohafmpgpnaab.W8
open Go.Sx Go.RowKit Go.Proofs.Ytlmohafmpgpnaab.T Go.Proofs.Ytlmohafmpgpnaab.W1 Go.Proofs.Ytlmohafmpgpnaab.W2 Go.Proofs.Ytlmohafmpgpnaab.W3 Go.Proofs.Ytlmohafmpgpnaab.W5 Go.Proofs.Ytlmohafmpgpnaab.W6 Go.Proofs.Ytlmohafmpgpnaab.W7
open Go.Plain
set_option linter.unusedVariables false
set_option maxRecDepth 100000 in
theorem count_c (w : World) (A : Option Addr) (n : Nat) (c : Nat) (xs : List (Int)) (Fc : FuncId) (cs : List Value) (p : Int → Bool) (hA : At w A (cells fI xs)) (eA : xs.length = n) (lA : n ≤ c) (hs : xs.length ≤ 1048576) (hen : Enters Try.prog Fc) (hf : ∀ x ∈ xs, ∀ w', Below w.heap.size w w' → Calls Try.prog Fc ([] ++ [Value.int .i64 x] ++ cs).toArray w' (Ret fun v w'' => v = .bool (p x) ∧ New w' w'' [])) : Calls Try.prog 63 #[.slice A (n) (c), .func (.func Fc) #[] cs.toArray] w (Ret fun rv w' => rv = .int .i64 (countI p xs) ∧ New w w' []) := by
  have oA := hA.atB
  subst eA
  refine fn_enter (args := [.slice A (xs.length) (c), .func (.func Fc) #[] cs.toArray]) Try.func63 rfl Try.ntmps63 rfl (SS.start w) ?_
  refine cw_seq ?_
  refine cw_region ?_
  refine wl_v (ov_assign rfl) rfl rfl rfl ?_
  refine wl_nil ?_
  refine ce_then ?_
  refine cw_seq ?_
  refine cw_region ?_
  refine wl_v (ov_assign rfl) rfl rfl rfl ?_
  refine wl_nil ?_
  refine ce_then ?_
  refine cw_seq ?_
  refine cw_seq ?_
  refine cw_region ?_
  refine wl_v (ov_move rfl) rfl rfl rfl ?_
  refine wl_v (ov_len (sliceI_spec sI22) rfl) rfl rfl rfl ?_
  refine wl_v (ov_move rfl) rfl rfl rfl ?_
  refine wl_nil ?_
  refine ce_then ?_
  refine cw_block ?_
  refine cw_loop1 (fun (k : Nat) => [(1, .func (.func Fc) #[] cs.toArray), (4, .int .i64 (0)), (8, .slice A (xs.length) (c)), (9, .int .i64 (((xs.length : Nat) : Int))), (5, .int .i64 (countI p (xs.take k))), (10, .int .i64 (((k : Nat) : Int)))]) (fun (k : Nat) => []) (fun (k : Nat) => k ≤ xs.length) (fun (k : Nat) => xs.length - k) 0 (by omega) (.cons rfl (.cons rfl (.cons rfl (.cons rfl (.cons (congrArg (fun z => some (Value.int .i64 z)) (show 0 = (countI p (xs.take 0)) from rfl)) (.cons (congrArg (fun z => some (Value.int .i64 z)) (show 0 = ((0 : Nat) : Int) by first | omega | rfl | (simp; done))) (.nil))))))) (.nil) ?_
  intro R0 k hk hR0
  have hcb := countI_bd p (xs.take k)
  have hll : (xs.take k).length ≤ xs.length := by rw [List.length_take]; omega
  refine cw_seq ?_
  refine cw_region ?_
  refine wl_if (ov_lss rfl rfl) rfl rfl rfl (fun c11 => ?_) (fun c11 => ?_)
  ·
    refine wl_nil ?_
    refine ce_then ?_
    refine cw_seq ?_
    refine cw_true rfl ?_
    refine cw_skip ?_
    refine ce_then ?_
    refine cw_seq ?_
    refine cw_block ?_
    refine cw_seq ?_
    refine cw_region ?_
    refine wl_v (ov_index (k := k) (c := c) sI22 tI3 rfl rfl (some_holds (q := k * 1) (holds_old oA) (by rw [cells_length fI_len]; have hlt : k < xs.length := (by first | omega | (simp; omega)); omega)) (show k < xs.length from (by first | omega | (simp; omega)))) rfl rfl rfl ?_
    refine wl_v (ov_load tI3 (holds_old oA) rfl (get_fI (show k < xs.length from (by first | omega | (simp; omega))))) rfl rfl rfl ?_
    refine wl_v (ov_assign rfl) rfl rfl rfl ?_
    refine wl_nil ?_
    refine ce_then ?_
    refine cw_seq ?_
    refine cw_region ?_
    refine wl_v (ov_move rfl) rfl rfl rfl ?_
    refine wl_v (ov_move rfl) rfl rfl rfl ?_
    refine wl_r (or_call (fv := []) (vs := [.int .i64 ((xs.getD k 0))]) (cs := cs) hen rfl rfl (call_v (fun w hw => hf _ (getD_mem 0 (by omega)) w hw.below))) rfl rfl (kt_ifb rfl (fun c16 => ?_) (fun c16 => ?_))
    ·
      refine wl_nil ?_
      refine ce_then ?_
      refine cw_true rfl ?_
      refine cw_region ?_
      refine wl_v (ov_move rfl) rfl rfl rfl ?_
      refine wl_v (ov_add (r := (countI p (xs.take k)) + 1) rfl rfl rfl (by omega)) rfl rfl rfl ?_
      refine wl_v (ov_assign rfl) rfl rfl rfl ?_
      refine wl_nil ?_
      refine ce_block ?_
      refine ce_then ?_
      refine cw_region ?_
      refine wl_v (ov_add (r := ((k + 1 : Nat) : Int)) rfl rfl rfl (by omega)) rfl rfl rfl ?_
      refine wl_v (ov_move rfl) rfl rfl rfl ?_
      refine wl_nil ?_
      exact fun a w hs => hR0 (k + 1) (by omega) (by omega) a w (hs.weaken (.cons rfl (.cons rfl (.cons rfl (.cons rfl (.cons (congrArg (fun z => some (Value.int .i64 z)) (show ((countI p (xs.take k)) + 1) = (countI p (xs.take (k + 1))) from (by rw [countI_take (by omega), if_pos c16]))) (.cons rfl (.nil))))))) (.nil))
    ·
      refine wl_nil ?_
      refine ce_then ?_
      refine cw_false rfl ?_
      refine cw_skip ?_
      refine ce_block ?_
      refine ce_then ?_
      refine cw_region ?_
      refine wl_v (ov_add (r := ((k + 1 : Nat) : Int)) rfl rfl rfl (by omega)) rfl rfl rfl ?_
      refine wl_v (ov_move rfl) rfl rfl rfl ?_
      refine wl_nil ?_
      exact fun a w hs => hR0 (k + 1) (by omega) (by omega) a w (hs.weaken (.cons rfl (.cons rfl (.cons rfl (.cons rfl (.cons (congrArg (fun z => some (Value.int .i64 z)) (show (countI p (xs.take k)) = (countI p (xs.take (k + 1))) from (by rw [countI_take (by omega), if_neg (by rw [c16]; exact Bool.false_ne_true)]; omega))) (.cons rfl (.nil))))))) (.nil))
  ·
    refine wl_nil ?_
    refine ce_then ?_
    refine cw_seq ?_
    refine cw_false rfl ?_
    refine cw_exit ?_
    refine ce_then_exit ?_
    refine ce_then_exit ?_
    refine ce_hit ?_
    refine ce_then ?_
    refine cw_seq ?_
    refine cw_region ?_
    refine wl_v (ov_move rfl) rfl rfl rfl ?_
    refine wl_v (ov_assign rfl) rfl rfl rfl ?_
    refine wl_nil ?_
    refine ce_then ?_
    refine cw_ret ?_
    refine ce_results (v := .int .i64 (countI p (xs.take k))) (res1 rfl (rv_t rfl)) (fun w' hw => ?_)
    exact ⟨(by rw [List.take_of_length_le (by omega)]), (Keep.nil.ss hw).to_new⟩
set_option maxRecDepth 100000 in
theorem corr11_c (w : World) (m : Int) (g1 : Nat) (k : Int) (hg1 : At w (some ⟨g1, 0, none⟩) [.int .i64 (k)]) : Calls Try.prog 64 #[.int .i64 (m), elp (some ⟨g1, 0, none⟩) (0)] w (Ret fun rv w' => rv = .bool (decide (k ≤ m)) ∧ New w w' []) := by
  have og1 := hg1.atB
  refine fn_enter (args := [.int .i64 (m), elp (some ⟨g1, 0, none⟩) (0)]) Try.func64 rfl Try.ntmps64 rfl (SS.start w) ?_
  refine cw_seq ?_
  refine cw_region ?_
  refine wl_v (ov_assign rfl) rfl rfl rfl ?_
  refine wl_nil ?_
  refine ce_then ?_
  refine cw_seq ?_
  refine cw_region ?_
  refine wl_v (ov_move rfl) rfl rfl rfl ?_
  refine wl_v (ov_load tI3 (holds_old og1) rfl rfl) rfl rfl rfl ?_
  refine wl_if (ov_geq rfl rfl) rfl rfl rfl (fun c6 => ?_) (fun c6 => ?_)
  ·
    refine wl_v (ov_assign rfl) rfl rfl rfl ?_
    refine wl_nil ?_
    refine ce_then ?_
    refine cw_ret ?_
    refine ce_results (v := .bool true) (res1 rfl (rv_t rfl)) (fun w' hw => ?_)
    exact ⟨(by simp [c6]), (Keep.nil.ss hw).to_new⟩
  ·
    refine wl_v (ov_assign rfl) rfl rfl rfl ?_
    refine wl_nil ?_
    refine ce_then ?_
    refine cw_ret ?_
    refine ce_results (v := .bool false) (res1 rfl (rv_t rfl)) (fun w' hw => ?_)
    exact ⟨(by simp [c6]), (Keep.nil.ss hw).to_new⟩
set_option maxRecDepth 100000 in
theorem corr12_c (w : World) (m : Int) (g1 : Nat) (k : Int) (hg1 : At w (some ⟨g1, 0, none⟩) [.int .i64 (k)]) : Calls Try.prog 65 #[.int .i64 (m), elp (some ⟨g1, 0, none⟩) (0)] w (Ret fun rv w' => rv = .bool (decide (k < m)) ∧ New w w' []) := by
  have og1 := hg1.atB
  refine fn_enter (args := [.int .i64 (m), elp (some ⟨g1, 0, none⟩) (0)]) Try.func65 rfl Try.ntmps65 rfl (SS.start w) ?_
  refine cw_seq ?_
  refine cw_region ?_
  refine wl_v (ov_assign rfl) rfl rfl rfl ?_
  refine wl_nil ?_
  refine ce_then ?_
  refine cw_seq ?_
  refine cw_region ?_
  refine wl_v (ov_move rfl) rfl rfl rfl ?_
  refine wl_v (ov_load tI3 (holds_old og1) rfl rfl) rfl rfl rfl ?_
  refine wl_if (ov_gtr rfl rfl) rfl rfl rfl (fun c6 => ?_) (fun c6 => ?_)
  ·
    refine wl_v (ov_assign rfl) rfl rfl rfl ?_
    refine wl_nil ?_
    refine ce_then ?_
    refine cw_ret ?_
    refine ce_results (v := .bool true) (res1 rfl (rv_t rfl)) (fun w' hw => ?_)
    exact ⟨(by simp [c6]), (Keep.nil.ss hw).to_new⟩
  ·
    refine wl_v (ov_assign rfl) rfl rfl rfl ?_
    refine wl_nil ?_
    refine ce_then ?_
    refine cw_ret ?_
    refine ce_results (v := .bool false) (res1 rfl (rv_t rfl)) (fun w' hw => ?_)
    exact ⟨(by simp [c6]), (Keep.nil.ss hw).to_new⟩
set_option maxRecDepth 100000 in
theorem corr1_c (w : World) (k : Nat) (g1 : Nat) (A : Option Addr) (n : Nat) (c : Nat) (xs : List Int) (hg1 : At w (some ⟨g1, 0, none⟩) [.slice A (n) (c)]) (hA : At w A (cells fI xs)) (eA : xs.length = n) (lA : n ≤ c) (hs : xs.length ≤ 100) (hi : k < n) : Calls Try.prog 62 #[.int .i64 (((k : Nat) : Int)), elp (some ⟨g1, 0, none⟩) (0)] w (Ret fun rv w' => rv = .int .i64 (corrAt xs k) ∧ New w w' []) := by
  have og1 := hg1.atB
  have oA := hA.atB
  have hc1 := countI_bd (fun x => decide (((k : Nat) : Int) ≤ x)) (xs.take k)
  have hc2 := countI_bd (fun x => decide (((k : Nat) : Int) < x)) (xs.drop (k + 1))
  have hl1 : (xs.take k).length = k := by rw [List.length_take]; omega
  have hl2 : (xs.drop (k + 1)).length = n - (k + 1) := by rw [List.length_drop, eA]
  refine fn_enter (args := [.int .i64 (((k : Nat) : Int)), elp (some ⟨g1, 0, none⟩) (0)]) Try.func62 rfl Try.ntmps62 rfl (SS.start w) ?_
  refine cw_seq ?_
  refine cw_region ?_
  refine wl_r (or_box rfl rfl) rfl rfl (kt1 rfl (fun g2 => ?_))
  refine wl_v (ov_assign rfl) rfl rfl rfl ?_
  refine wl_nil ?_
  refine ce_then ?_
  refine cw_seq ?_
  refine cw_draw mixO [] (.cons (.head) (.nil)) rfl ?_
  refine wg_take (i := 0) rfl (ov_load tI22 (holds_old og1) rfl rfl) rfl rfl rfl (by kernel_rfl) (by kernel_rfl) (by kernel_rfl) (by kernel_rfl) ?_
  refine wg_take (i := 1) rfl (ov_load tI3 (holds_blk (List.Mem.head _)) rfl rfl) rfl rfl rfl (by kernel_rfl) (by kernel_rfl) (by kernel_rfl) (by kernel_rfl) ?_
  refine wg_takep (i := 2) rfl (ov_slice_h (h := k) sI22 tI3 rfl rfl (by omega)) rfl rfl rfl (by kernel_rfl) (by kernel_rfl) (by kernel_rfl) rfl ?_
  refine wg_takep (i := 3) rfl (ov_makeFunc (vs := #[elp (some ⟨g2, 0, none⟩) (0)]) rfl) rfl rfl rfl (by kernel_rfl) (by kernel_rfl) (by kernel_rfl) rfl ?_
  refine wg_take (i := 5) rfl (ov_load tI22 (holds_old og1) rfl rfl) rfl rfl rfl (by kernel_rfl) (by kernel_rfl) (by kernel_rfl) (by kernel_rfl) ?_
  refine wg_take (i := 6) rfl (ov_load tI3 (holds_blk (List.Mem.head _)) rfl rfl) rfl rfl rfl (by kernel_rfl) (by kernel_rfl) (by kernel_rfl) (by kernel_rfl) ?_
  refine wg_takep (i := 7) rfl (ov_add (r := ((k + 1 : Nat) : Int)) rfl rfl rfl (by omega)) rfl rfl rfl (by kernel_rfl) (by kernel_rfl) (by kernel_rfl) rfl ?_
  refine wg_takep (i := 8) rfl (ov_slice_l (l := k + 1) sI22 tI3 rfl rfl (by omega)) rfl rfl rfl (by kernel_rfl) (by kernel_rfl) (by kernel_rfl) rfl ?_
  refine wg_takep (i := 9) rfl (ov_makeFunc (vs := #[elp (some ⟨g2, 0, none⟩) (0)]) rfl) rfl rfl rfl (by kernel_rfl) (by kernel_rfl) (by kernel_rfl) rfl ?_
  refine wg_one (i := 4) (by kernel_rfl) ?_
  refine go_r rfl rfl rfl rfl (or_call (fv := []) (vs := [.slice A (k) (c), .func (.func 64) #[] #[elp (some ⟨g2, 0, none⟩) (0)]]) (cs := []) en63 rfl rfl (call_v (fun w hw => count_c w A k c (xs.take k) 64 ([elp (some ⟨g2, 0, none⟩) (0)]) (fun x => decide (((k : Nat) : Int) ≤ x)) ((holds_takeC (k := k) fI_len (holds_old oA)) w hw) hl1 (by omega) (by omega) en64 (fun x hx w' hb => corr11_c w' x g2 ((k : Nat) : Int) ((holds_blk (List.Mem.head _)) w' (hw.later hb)))))) (kt0 rfl ?_)
  refine gk (.cons (.head) (.nil)) ?_
  refine wg_one (i := 10) (by kernel_rfl) ?_
  refine go_r rfl rfl rfl rfl (or_call (fv := []) (vs := [.slice (dropA A c (k + 1) 1) (n - (k + 1)) (c - (k + 1)), .func (.func 65) #[] #[elp (some ⟨g2, 0, none⟩) (0)]]) (cs := []) en63 rfl rfl (call_v (fun w hw => count_c w (dropA A c (k + 1) 1) (n - (k + 1)) (c - (k + 1)) (xs.drop (k + 1)) 65 ([elp (some ⟨g2, 0, none⟩) (0)]) (fun x => decide (((k : Nat) : Int) < x)) ((holds_dropC (l := (k + 1)) fI_len (holds_old oA) (by first | exact lA | omega)) w hw) hl2 (by omega) (by omega) en65 (fun x hx w' hb => corr12_c w' x g2 ((k : Nat) : Int) ((holds_blk (List.Mem.head _)) w' (hw.later hb)))))) (kt0 rfl ?_)
  refine gk (.cons (.head) (.nil)) ?_
  refine wg_takep (i := 11) rfl (ov_add (r := (countI (fun x => decide (((k : Nat) : Int) ≤ x)) (xs.take k)) + (countI (fun x => decide (((k : Nat) : Int) < x)) (xs.drop (k + 1)))) rfl rfl rfl (by omega)) rfl rfl rfl (by kernel_rfl) (by kernel_rfl) (by kernel_rfl) rfl ?_
  refine wg_takep (i := 12) rfl (ov_assign rfl) rfl rfl rfl (by kernel_rfl) (by kernel_rfl) (by kernel_rfl) rfl ?_
  refine wg_done (by kernel_rfl) ?_
  refine ce_then ?_
  refine cw_ret ?_
  refine ce_results (v := .int .i64 ((countI (fun x => decide (((k : Nat) : Int) ≤ x)) (xs.take k)) + (countI (fun x => decide (((k : Nat) : Int) < x)) (xs.drop (k + 1))))) (res1 rfl (rv_t rfl)) (fun w' hw => ?_)
  exact ⟨(by rw [corrAt, ← countI_lt] <;> rfl), (Keep.nil.ss hw).to_new⟩
set_option maxRecDepth 100000 in
theorem CorrectedOfI_c (w : World) (A : Option Addr) (n : Nat) (c : Nat) (xs : List (Int)) (hA : At w A (cells fI xs)) (eA : xs.length = n) (lA : n ≤ c) (hs : xs.length ≤ 1048576) : Calls Try.prog 31 #[.slice A (n) (c)] w (Ret fun rv w' => ∃ A2 c2, ((corrV xs).length ≤ c2) ∧ rv = .slice A2 ((corrV xs).length) (c2) ∧ New w w' [row 3 1 A2 ((corrV xs).length) (c2) (cells fI (corrV xs))]) := by
  have oA := hA.atB
  subst eA
  refine fn_enter (args := [.slice A (xs.length) (c)]) Try.func31 rfl Try.ntmps31 rfl (SS.start w) ?_
  refine cw_seq ?_
  refine cw_region ?_
  refine wl_v (ov_assign rfl) rfl rfl rfl ?_
  refine wl_nil ?_
  refine ce_then ?_
  refine cw_seq ?_
  refine cw_region ?_
  refine wl_v (ov_move rfl) rfl rfl rfl ?_
  refine wl_r (or_call (fv := []) (vs := [.slice A (xs.length) (c)]) (cs := []) en30 rfl rfl (call_x2 (fun w hw => fallingI_c w A xs.length c xs ((holds_old oA) w hw) rfl lA (by first | assumption | omega | (simp; omega))))) rfl rfl (kt2p rfl (fun A2_5 c2_5 h_5 => ?_))
  refine wl_r (or_alloc tI22 rfl) rfl rfl (kt1 rfl (fun g3 => ?_))
  refine wl_r0 (or_store_blk (vs := [.slice A2_5 (xs.length) (xs.length)]) (cs' := [.slice A2_5 (xs.length) (xs.length)]) (.head) tI22 rfl rfl rfl rfl (Nat.le_of_ble_eq_true rfl) rfl) rfl rfl (kn0 ?_)
  refine wl_nil ?_
  refine ce_then ?_
  refine cw_seq ?_
  refine cw_region ?_
  refine wl_v (ov_move rfl) rfl rfl rfl ?_
  refine wl_v (ov_makeFunc (vs := #[elp (some ⟨g3, 0, none⟩) (0)]) rfl) rfl rfl rfl ?_
  refine wl_r (or_call (fv := []) (vs := [.slice A (xs.length) (c), .func (.func 62) #[] #[elp (some ⟨g3, 0, none⟩) (0)]]) (cs := []) en61 rfl rfl (call_x2 (fun w hw => each_c w A xs.length c xs 62 ([elp (some ⟨g3, 0, none⟩) (0)]) (corrAt (fall xs)) ((holds_old oA) w hw) rfl lA (by first | assumption | omega | (simp; omega)) en62 (fun hV k hk w' hb => corr1_c w' k g3 A2_5 xs.length xs.length (fall xs) ((holds_blk (List.Mem.head _)) w' (hw.later hb)) ((holds_row (List.Mem.tail _ (List.Mem.head _))) w' (hw.later hb)) (fall_length _) (Nat.le_refl _) (by rw [fall_length]; have := hV.1; omega) hk)))) rfl rfl (kt2p rfl (fun A2_8 c2_8 h_8 => ?_))
  refine wl_v (ov_assign rfl) rfl rfl rfl ?_
  refine wl_nil ?_
  refine ce_then ?_
  refine cw_ret ?_
  refine ce_results (v := .slice A2_8 ((eachL xs (corrAt (fall xs))).length) (c2_8)) (res1 rfl (rv_t rfl)) (fun w' hw => ?_)
  exact ⟨A2_8, c2_8, h_8, rfl, ((.cons (.head) (.nil) : Keep _ _).ss hw).to_new⟩
set_option maxRecDepth 100000 in
theorem countAtLeast_c (w : World) (A : Option Addr) (n : Nat) (c : Nat) (xs : List (Int)) (m : Int) (hA : At w A (cells fI xs)) (eA : xs.length = n) (lA : n ≤ c) (hs : xs.length ≤ 1048576) : Calls Try.prog 77 #[.slice A (n) (c), .int .i64 (m)] w (Ret fun rv w' => rv = .int .i64 (atLeast xs m) ∧ New w w' []) := by
  have oA := hA.atB
  subst eA
  refine fn_enter (args := [.slice A (xs.length) (c), .int .i64 (m)]) Try.func77 rfl Try.ntmps77 rfl (SS.start w) ?_
  refine cw_seq ?_
  refine cw_region ?_
  refine wl_v (ov_assign rfl) rfl rfl rfl ?_
  refine wl_nil ?_
  refine ce_then ?_
  refine cw_seq ?_
  refine cw_region ?_
  refine wl_v (ov_assign rfl) rfl rfl rfl ?_
  refine wl_nil ?_
  refine ce_then ?_
  refine cw_seq ?_
  refine cw_seq ?_
  refine cw_region ?_
  refine wl_v (ov_assign rfl) rfl rfl rfl ?_
  refine wl_nil ?_
  refine ce_then ?_
  refine cw_block ?_
  refine cw_loop1 (fun (k : Nat) => [(0, .slice A (xs.length) (c)), (1, .int .i64 (m)), (4, .int .i64 (0)), (5, .int .i64 (atLeast (xs.take k) m)), (6, .int .i64 (((k : Nat) : Int)))]) (fun (k : Nat) => []) (fun (k : Nat) => k ≤ xs.length) (fun (k : Nat) => xs.length - k) 0 (by omega) (.cons rfl (.cons rfl (.cons rfl (.cons (congrArg (fun z => some (Value.int .i64 z)) (show 0 = (atLeast (xs.take 0) m) from rfl)) (.cons (congrArg (fun z => some (Value.int .i64 z)) (show 0 = ((0 : Nat) : Int) by first | omega | rfl | (simp; done))) (.nil)))))) (.nil) ?_
  intro R0 k hk hR0
  have hcb := atLeast_bd (xs.take k) m
  have hll : (xs.take k).length ≤ xs.length := by rw [List.length_take]; omega
  refine cw_seq ?_
  refine cw_seq ?_
  refine cw_region ?_
  refine wl_v (ov_move rfl) rfl rfl rfl ?_
  refine wl_v (ov_move rfl) rfl rfl rfl ?_
  refine wl_v (ov_len (sliceI_spec sI22) rfl) rfl rfl rfl ?_
  refine wl_if (ov_lss rfl rfl) rfl rfl rfl (fun c10 => ?_) (fun c10 => ?_)
  ·
    refine wl_nil ?_
    refine ce_then ?_
    refine cw_true rfl ?_
    refine cw_skip ?_
    refine ce_then ?_
    refine cw_seq ?_
    refine cw_block ?_
    refine cw_seq ?_
    refine cw_region ?_
    refine wl_v (ov_move rfl) rfl rfl rfl ?_
    refine wl_v (ov_move rfl) rfl rfl rfl ?_
    refine wl_v (ov_index (k := k) (c := c) sI22 tI3 rfl rfl (some_holds (q := k * 1) (holds_old oA) (by rw [cells_length fI_len]; have hlt : k < xs.length := (by first | omega | (simp; omega)); omega)) (show k < xs.length from (by first | omega | (simp; omega)))) rfl rfl rfl ?_
    refine wl_v (ov_load tI3 (holds_old oA) rfl (get_fI (show k < xs.length from (by first | omega | (simp; omega))))) rfl rfl rfl ?_
    refine wl_v (ov_move rfl) rfl rfl rfl ?_
    refine wl_if (ov_geq rfl rfl) rfl rfl rfl (fun c18 => ?_) (fun c18 => ?_)
    ·
      refine wl_nil ?_
      refine ce_then ?_
      refine cw_true rfl ?_
      refine cw_region ?_
      refine wl_v (ov_move rfl) rfl rfl rfl ?_
      refine wl_v (ov_add (r := (atLeast (xs.take k) m) + 1) rfl rfl rfl (by omega)) rfl rfl rfl ?_
      refine wl_v (ov_assign rfl) rfl rfl rfl ?_
      refine wl_nil ?_
      refine ce_block ?_
      refine ce_then ?_
      refine cw_region ?_
      refine wl_v (ov_move rfl) rfl rfl rfl ?_
      refine wl_v (ov_add (r := ((k + 1 : Nat) : Int)) rfl rfl rfl (by omega)) rfl rfl rfl ?_
      refine wl_v (ov_assign rfl) rfl rfl rfl ?_
      refine wl_nil ?_
      exact fun a w hs => hR0 (k + 1) (by omega) (by omega) a w (hs.weaken (.cons rfl (.cons rfl (.cons rfl (.cons (congrArg (fun z => some (Value.int .i64 z)) (show ((atLeast (xs.take k) m) + 1) = (atLeast (xs.take (k + 1)) m) from (by rw [atLeast_take _ (by omega), if_pos c18]))) (.cons rfl (.nil)))))) (.nil))
    ·
      refine wl_nil ?_
      refine ce_then ?_
      refine cw_false rfl ?_
      refine cw_skip ?_
      refine ce_block ?_
      refine ce_then ?_
      refine cw_region ?_
      refine wl_v (ov_move rfl) rfl rfl rfl ?_
      refine wl_v (ov_add (r := ((k + 1 : Nat) : Int)) rfl rfl rfl (by omega)) rfl rfl rfl ?_
      refine wl_v (ov_assign rfl) rfl rfl rfl ?_
      refine wl_nil ?_
      exact fun a w hs => hR0 (k + 1) (by omega) (by omega) a w (hs.weaken (.cons rfl (.cons rfl (.cons rfl (.cons (congrArg (fun z => some (Value.int .i64 z)) (show (atLeast (xs.take k) m) = (atLeast (xs.take (k + 1)) m) from (by rw [atLeast_take _ (by omega), if_neg c18]; omega))) (.cons rfl (.nil)))))) (.nil))
  ·
    refine wl_nil ?_
    refine ce_then ?_
    refine cw_false rfl ?_
    refine cw_exit ?_
    refine ce_then_exit ?_
    refine ce_then_exit ?_
    refine ce_hit ?_
    refine ce_then ?_
    refine cw_seq ?_
    refine cw_region ?_
    refine wl_v (ov_move rfl) rfl rfl rfl ?_
    refine wl_v (ov_assign rfl) rfl rfl rfl ?_
    refine wl_nil ?_
    refine ce_then ?_
    refine cw_ret ?_
    refine ce_results (v := .int .i64 (atLeast (xs.take k) m)) (res1 rfl (rv_t rfl)) (fun w' hw => ?_)
    exact ⟨(by rw [List.take_of_length_le (by omega)]), (Keep.nil.ss hw).to_new⟩
set_option maxRecDepth 100000 in
theorem corrected_c (w : World) (A : Option Addr) (n : Nat) (c : Nat) (xs : List (Int)) (hA : At w A (cells fI xs)) (eA : xs.length = n) (lA : n ≤ c) (hs : xs.length ≤ 100) : Calls Try.prog 56 #[.slice A (n) (c)] w (Ret fun rv w' => ∃ A2 c2, (n ≤ c2) ∧ rv = .slice A2 (n) (c2) ∧ New w w' [row 3 1 A2 (n) (c2) (cells fI ((List.range n).map (corrAt xs)))]) := by
  have oA := hA.atB
  subst eA
  refine fn_enter (args := [.slice A (xs.length) (c)]) Try.func56 rfl Try.ntmps56 rfl (SS.start w) ?_
  refine cw_seq ?_
  refine cw_region ?_
  refine wl_v (ov_assign rfl) rfl rfl rfl ?_
  refine wl_nil ?_
  refine ce_then ?_
  refine cw_seq ?_
  refine cw_region ?_
  refine wl_r (or_buildSlice (e := 3) (size := 1) (is := []) (vs := []) (cs := cells fI ([])) rfl rfl rfl (by decide) (fun _ => by kernel_rfl)) rfl rfl (kt1 rfl (fun g5 => ?_))
  refine wl_v (ov_assign rfl) rfl rfl rfl ?_
  refine wl_nil ?_
  refine ce_then ?_
  refine cw_seq ?_
  refine cw_seq ?_
  refine cw_region ?_
  refine wl_v (ov_assign rfl) rfl rfl rfl ?_
  refine wl_nil ?_
  refine ce_then ?_
  refine cw_block ?_
  refine cw_loop3 (fun (k : Nat) (A2 : Option Addr) (c2 : Nat) => [(0, .slice A (xs.length) (c)), (2, .slice none (0) (0)), (3, .slice A2 (k) (c2)), (4, .int .i64 (((k : Nat) : Int)))]) (fun (k : Nat) (A2 : Option Addr) (c2 : Nat) => [row 3 1 A2 (k) (c2) (cells fI ((List.range k).map (corrAt xs)))]) (fun (k : Nat) (A2 : Option Addr) (c2 : Nat) => k ≤ xs.length ∧ k ≤ c2) (fun (k : Nat) (A2 : Option Addr) (c2 : Nat) => xs.length - k) 0 (some ⟨g5, 0, none⟩) 0 ⟨by omega, Nat.le_refl _⟩ (.cons rfl (.cons rfl (.cons rfl (.cons (congrArg (fun z => some (Value.int .i64 z)) (show 0 = ((0 : Nat) : Int) by first | omega | rfl | (simp; done))) (.nil))))) (.consE (show row 3 1 (some ⟨g5, 0, none⟩) (0) (0) (cells fI ([])) = row 3 1 (some ⟨g5, 0, none⟩) (0) (0) (cells fI ((List.range 0).map (corrAt xs))) by rfl) (.head) (.nil)) ?_
  intro R0 k A2 c2 hk hR0
  obtain ⟨hk1, hk2⟩ := hk
  have hc1 := atLeast_bd (xs.take k) ((k : Nat) : Int)
  have hc2 := atLeast_bd (xs.drop (k + 1)) ((k + 1 : Nat) : Int)
  have hl1 : (xs.take k).length = k := by rw [List.length_take]; omega
  have hl2 : (xs.drop (k + 1)).length = xs.length - (k + 1) := List.length_drop
  refine cw_seq ?_
  refine cw_seq ?_
  refine cw_region ?_
  refine wl_v (ov_move rfl) rfl rfl rfl ?_
  refine wl_v (ov_move rfl) rfl rfl rfl ?_
  refine wl_v (ov_len (sliceI_spec sI22) rfl) rfl rfl rfl ?_
  refine wl_if (ov_lss rfl rfl) rfl rfl rfl (fun c9 => ?_) (fun c9 => ?_)
  ·
    refine wl_nil ?_
    refine ce_then ?_
    refine cw_true rfl ?_
    refine cw_skip ?_
    refine ce_then ?_
    refine cw_seq ?_
    refine cw_block ?_
    refine cw_draw mixO [15] (.cons (.head) (.nil)) rfl ?_
    refine wg_takep (i := 0) rfl (ov_move rfl) rfl rfl rfl (by kernel_rfl) (by kernel_rfl) (by kernel_rfl) rfl ?_
    refine wg_takep (i := 1) rfl (ov_move rfl) rfl rfl rfl (by kernel_rfl) (by kernel_rfl) (by kernel_rfl) rfl ?_
    refine wg_takep (i := 2) rfl (ov_move rfl) rfl rfl rfl (by kernel_rfl) (by kernel_rfl) (by kernel_rfl) rfl ?_
    refine wg_takep (i := 3) rfl (ov_slice_h (h := k) sI22 tI3 rfl rfl (by omega)) rfl rfl rfl (by kernel_rfl) (by kernel_rfl) (by kernel_rfl) rfl ?_
    refine wg_takep (i := 4) rfl (ov_move rfl) rfl rfl rfl (by kernel_rfl) (by kernel_rfl) (by kernel_rfl) rfl ?_
    refine wg_takep (i := 6) rfl (ov_move rfl) rfl rfl rfl (by kernel_rfl) (by kernel_rfl) (by kernel_rfl) rfl ?_
    refine wg_takep (i := 7) rfl (ov_move rfl) rfl rfl rfl (by kernel_rfl) (by kernel_rfl) (by kernel_rfl) rfl ?_
    refine wg_takep (i := 8) rfl (ov_add (r := ((k + 1 : Nat) : Int)) rfl rfl rfl (by omega)) rfl rfl rfl (by kernel_rfl) (by kernel_rfl) (by kernel_rfl) rfl ?_
    refine wg_takep (i := 9) rfl (ov_slice_l (l := k + 1) sI22 tI3 rfl rfl (by omega)) rfl rfl rfl (by kernel_rfl) (by kernel_rfl) (by kernel_rfl) rfl ?_
    refine wg_takep (i := 10) rfl (ov_move rfl) rfl rfl rfl (by kernel_rfl) (by kernel_rfl) (by kernel_rfl) rfl ?_
    refine wg_takep (i := 11) rfl (ov_add (r := ((k + 1 : Nat) : Int)) rfl rfl rfl (by omega)) rfl rfl rfl (by kernel_rfl) (by kernel_rfl) (by kernel_rfl) rfl ?_
    refine wg_one (i := 5) (by kernel_rfl) ?_
    refine go_r rfl rfl rfl rfl (or_call (fv := []) (vs := [.slice A (k) (c), .int .i64 (((k : Nat) : Int))]) (cs := []) en77 rfl rfl (call_v (fun w hw => countAtLeast_c w A k c (xs.take k) ((k : Nat) : Int) ((holds_takeC (k := k) fI_len (holds_old oA)) w hw) hl1 (by omega) (by omega)))) (kt0 rfl ?_)
    refine gk (.cons (.head) (.nil)) ?_
    refine wg_one (i := 12) (by kernel_rfl) ?_
    refine go_r rfl rfl rfl rfl (or_call (fv := []) (vs := [.slice (dropA A c (k + 1) 1) (xs.length - (k + 1)) (c - (k + 1)), .int .i64 (((k + 1 : Nat) : Int))]) (cs := []) en77 rfl rfl (call_v (fun w hw => countAtLeast_c w (dropA A c (k + 1) 1) (xs.length - (k + 1)) (c - (k + 1)) (xs.drop (k + 1)) ((k + 1 : Nat) : Int) ((holds_dropC (l := (k + 1)) fI_len (holds_old oA) (by first | exact lA | omega)) w hw) hl2 (by omega) (by omega)))) (kt0 rfl ?_)
    refine gk (.cons (.head) (.nil)) ?_
    refine wg_takep (i := 13) rfl (ov_add (r := (atLeast (xs.take k) ((k : Nat) : Int)) + (atLeast (xs.drop (k + 1)) ((k + 1 : Nat) : Int))) rfl rfl rfl (by omega)) rfl rfl rfl (by kernel_rfl) (by kernel_rfl) (by kernel_rfl) rfl ?_
    refine wg_one (i := 14) (by kernel_rfl) ?_
    refine go_r rfl rfl rfl rfl (or_buildSlice (e := 3) (size := 1) (is := [0]) (vs := [.int .i64 ((atLeast (xs.take k) ((k : Nat) : Int)) + (atLeast (xs.drop (k + 1)) ((k + 1 : Nat) : Int)))]) (cs := cells fI ([(atLeast (xs.take k) ((k : Nat) : Int)) + (atLeast (xs.drop (k + 1)) ((k + 1 : Nat) : Int))])) rfl rfl rfl (by decide) (fun _ => by kernel_rfl)) (kt1 rfl (fun g26 => ?_))
    refine gk (.cons (.tail .head) (.nil)) ?_
    refine wg_one (i := 15) (by kernel_rfl) ?_
    refine go_late rfl rfl rfl rfl (or_append (c2 := 1) sI22 tI3 rfl (by decide) rfl rfl (.tail .head) (holds_row (List.Mem.head _)) (by rw [cells_length fI_len]; try simp) (one_cells fI_one _) cells_append (by omega) (by omega)) (kt2p rfl (fun A27 c27 h27 => ?_))
    refine wa_r (i := 16) (by kernel_rfl) rfl rfl rfl (OpV.opR (ov_assign rfl)) (kt0 rfl ?_)
    refine wa_done (by kernel_rfl) ?_
    refine ce_block ?_
    refine ce_then ?_
    refine cw_region ?_
    refine wl_v (ov_move rfl) rfl rfl rfl ?_
    refine wl_v (ov_add (r := ((k + 1 : Nat) : Int)) rfl rfl rfl (by omega)) rfl rfl rfl ?_
    refine wl_v (ov_assign rfl) rfl rfl rfl ?_
    refine wl_nil ?_
    exact fun a w hs => hR0 (k + 1) A27 c27 ⟨by omega, h27⟩ (by omega) a w (hs.weaken (.cons rfl (.cons rfl (.cons rfl (.cons rfl (.nil))))) (.consE (show row 3 1 A27 (k + 1) (c27) (cells fI (((List.range k).map (corrAt xs)) ++ ([(atLeast (xs.take k) ((k : Nat) : Int)) + (atLeast (xs.drop (k + 1)) ((k + 1 : Nat) : Int))]))) = row 3 1 A27 ((k + 1)) (c27) (cells fI ((List.range (k + 1)).map (corrAt xs))) by rw [map_range_succ] <;> rfl) (.head) (.nil)))
  ·
    refine wl_nil ?_
    refine ce_then ?_
    refine cw_false rfl ?_
    refine cw_exit ?_
    refine ce_then_exit ?_
    refine ce_then_exit ?_
    refine ce_hit ?_
    refine ce_then ?_
    refine cw_seq ?_
    refine cw_region ?_
    refine wl_v (ov_move rfl) rfl rfl rfl ?_
    refine wl_v (ov_assign rfl) rfl rfl rfl ?_
    refine wl_nil ?_
    refine ce_then ?_
    refine cw_ret ?_
    refine ce_results (v := .slice A2 (k) (c2)) (res1 rfl (rv_t rfl)) (fun w' hw => ?_)
    exact ⟨A2, c2, (by omega), (by rw [show xs.length = k from by omega]), ((.consE (show row 3 1 A2 (k) (c2) (cells fI ((List.range k).map (corrAt xs))) = row 3 1 A2 (xs.length) (c2) (cells fI ((List.range xs.length).map (corrAt xs))) by rw [show xs.length = k from by omega]) (.head) (.nil) : Keep _ _).ss hw).to_new⟩
set_option maxRecDepth 100000 in
theorem same_c (w : World) (A : Option Addr) (n : Nat) (c : Nat) (xs : List (Int)) (A2 : Option Addr) (n2 : Nat) (c2 : Nat) (ys : List (Int)) (hA : At w A (cells fI xs)) (eA : xs.length = n) (lA : n ≤ c) (hA2 : At w A2 (cells fI ys)) (eA2 : ys.length = n2) (lA2 : n2 ≤ c2) (hs : xs.length ≤ 1048576) : Calls Try.prog 55 #[.slice A (n) (c), .slice A2 (n2) (c2)] w (Ret fun rv w' => rv = .bool (decide (xs = ys)) ∧ New w w' []) := by
  have oA := hA.atB
  subst eA
  have oA2 := hA2.atB
  subst eA2
  refine fn_enter (args := [.slice A (xs.length) (c), .slice A2 (ys.length) (c2)]) Try.func55 rfl Try.ntmps55 rfl (SS.start w) ?_
  refine cw_seq ?_
  refine cw_region ?_
  refine wl_v (ov_assign rfl) rfl rfl rfl ?_
  refine wl_nil ?_
  refine ce_then ?_
  refine cw_seq ?_
  refine cw_seq ?_
  refine cw_region ?_
  refine wl_v (ov_move rfl) rfl rfl rfl ?_
  refine wl_v (ov_len (sliceI_spec sI22) rfl) rfl rfl rfl ?_
  refine wl_v (ov_move rfl) rfl rfl rfl ?_
  refine wl_v (ov_len (sliceI_spec sI22) rfl) rfl rfl rfl ?_
  refine wl_if (ov_neq rfl rfl) rfl rfl rfl (fun c10 => ?_) (fun c10 => ?_)
  ·
    refine wl_nil ?_
    refine ce_then ?_
    refine cw_true rfl ?_
    refine cw_seq ?_
    refine cw_region ?_
    refine wl_v (ov_assign rfl) rfl rfl rfl ?_
    refine wl_nil ?_
    refine ce_then ?_
    refine cw_ret ?_
    refine ce_then_ret ?_
    refine ce_results (v := .bool false) (res1 rfl (rv_t rfl)) (fun w' hw => ?_)
    exact ⟨(bf (fun h => c10 (by rw [h]))), (Keep.nil.ss hw).to_new⟩
  ·
    refine wl_nil ?_
    refine ce_then ?_
    refine cw_false rfl ?_
    refine cw_skip ?_
    refine ce_then ?_
    refine cw_seq ?_
    refine cw_seq ?_
    refine cw_region ?_
    refine wl_v (ov_assign rfl) rfl rfl rfl ?_
    refine wl_nil ?_
    refine ce_then ?_
    refine cw_block ?_
    refine cw_loop1 (fun (k : Nat) => [(0, .slice A (xs.length) (c)), (1, .slice A2 (ys.length) (c2)), (5, .int .i64 (((k : Nat) : Int)))]) (fun (k : Nat) => []) (fun (k : Nat) => k ≤ xs.length ∧ xs.take k = ys.take k) (fun (k : Nat) => xs.length - k) 0 ⟨by omega, rfl⟩ (.cons rfl (.cons rfl (.cons (congrArg (fun z => some (Value.int .i64 z)) (show 0 = ((0 : Nat) : Int) by first | omega | rfl | (simp; done))) (.nil)))) (.nil) ?_
    intro R0 k hk hR0
    obtain ⟨hk1, hk2⟩ := hk
    refine cw_seq ?_
    refine cw_seq ?_
    refine cw_region ?_
    refine wl_v (ov_move rfl) rfl rfl rfl ?_
    refine wl_v (ov_move rfl) rfl rfl rfl ?_
    refine wl_v (ov_len (sliceI_spec sI22) rfl) rfl rfl rfl ?_
    refine wl_if (ov_lss rfl rfl) rfl rfl rfl (fun c14 => ?_) (fun c14 => ?_)
    ·
      refine wl_nil ?_
      refine ce_then ?_
      refine cw_true rfl ?_
      refine cw_skip ?_
      refine ce_then ?_
      refine cw_seq ?_
      refine cw_block ?_
      refine cw_seq ?_
      refine cw_draw mixO [] (.nil) rfl ?_
      refine wg_takep (i := 0) rfl (ov_move rfl) rfl rfl rfl (by kernel_rfl) (by kernel_rfl) (by kernel_rfl) rfl ?_
      refine wg_takep (i := 1) rfl (ov_move rfl) rfl rfl rfl (by kernel_rfl) (by kernel_rfl) (by kernel_rfl) rfl ?_
      refine wg_take (i := 2) rfl (ov_index (k := k) (c := c) sI22 tI3 rfl rfl (some_holds (q := k * 1) (holds_old oA) (by rw [cells_length fI_len]; have hlt : k < xs.length := (by first | omega | (simp; omega)); omega)) (show k < xs.length from (by first | omega | (simp; omega)))) rfl rfl rfl (by kernel_rfl) (by kernel_rfl) (by kernel_rfl) (by kernel_rfl) ?_
      refine wg_take (i := 3) rfl (ov_load tI3 (holds_old oA) rfl (get_fI (show k < xs.length from (by first | omega | (simp; omega))))) rfl rfl rfl (by kernel_rfl) (by kernel_rfl) (by kernel_rfl) (by kernel_rfl) ?_
      refine wg_takep (i := 4) rfl (ov_move rfl) rfl rfl rfl (by kernel_rfl) (by kernel_rfl) (by kernel_rfl) rfl ?_
      refine wg_takep (i := 5) rfl (ov_move rfl) rfl rfl rfl (by kernel_rfl) (by kernel_rfl) (by kernel_rfl) rfl ?_
      refine wg_take (i := 6) rfl (ov_index (k := k) (c := c2) sI22 tI3 rfl rfl (some_holds (q := k * 1) (holds_old oA2) (by rw [cells_length fI_len]; have hlt : k < ys.length := (by first | omega | (simp; omega)); omega)) (show k < ys.length from (by first | omega | (simp; omega)))) rfl rfl rfl (by kernel_rfl) (by kernel_rfl) (by kernel_rfl) (by kernel_rfl) ?_
      refine wg_take (i := 7) rfl (ov_load tI3 (holds_old oA2) rfl (get_fI (show k < ys.length from (by first | omega | (simp; omega))))) rfl rfl rfl (by kernel_rfl) (by kernel_rfl) (by kernel_rfl) (by kernel_rfl) ?_
      refine wg_takep_if (i := 8) rfl (ov_neq rfl rfl) rfl rfl rfl (by kernel_rfl) (by kernel_rfl) (by kernel_rfl) rfl (fun c25 => ?_) (fun c25 => ?_)
      ·
        refine wg_done (by kernel_rfl) ?_
        refine ce_then ?_
        refine cw_true rfl ?_
        refine cw_seq ?_
        refine cw_region ?_
        refine wl_v (ov_assign rfl) rfl rfl rfl ?_
        refine wl_nil ?_
        refine ce_then ?_
        refine cw_ret ?_
        refine ce_block_ret ?_
        refine ce_then_ret ?_
        refine ce_then_ret ?_
        refine ce_block_ret ?_
        refine ce_then_ret ?_
        refine ce_results (v := .bool false) (res1 rfl (rv_t rfl)) (fun w' hw => ?_)
        exact ⟨(bf (fun h => c25 (by rw [h]))), (Keep.nil.ss hw).to_new⟩
      ·
        refine wg_done (by kernel_rfl) ?_
        refine ce_then ?_
        refine cw_false rfl ?_
        refine cw_skip ?_
        refine ce_block ?_
        refine ce_then ?_
        refine cw_region ?_
        refine wl_v (ov_move rfl) rfl rfl rfl ?_
        refine wl_v (ov_add (r := ((k + 1 : Nat) : Int)) rfl rfl rfl (by omega)) rfl rfl rfl ?_
        refine wl_v (ov_assign rfl) rfl rfl rfl ?_
        refine wl_nil ?_
        exact fun a w hs => hR0 (k + 1) ⟨by omega, take_eq_step 0 (by omega) (by omega) hk2 (by omega)⟩ (by omega) a w (hs.weaken (.cons rfl (.cons rfl (.cons rfl (.nil)))) (.nil))
    ·
      refine wl_nil ?_
      refine ce_then ?_
      refine cw_false rfl ?_
      refine cw_exit ?_
      refine ce_then_exit ?_
      refine ce_then_exit ?_
      refine ce_hit ?_
      refine ce_then ?_
      refine cw_seq ?_
      refine cw_region ?_
      refine wl_v (ov_assign rfl) rfl rfl rfl ?_
      refine wl_nil ?_
      refine ce_then ?_
      refine cw_ret ?_
      refine ce_results (v := .bool true) (res1 rfl (rv_t rfl)) (fun w' hw => ?_)
      exact ⟨(bt (by rwa [List.take_of_length_le (by omega), List.take_of_length_le (by omega)] at hk2)), (Keep.nil.ss hw).to_new⟩
set_option maxRecDepth 100000 in
theorem equal_c (w : World) (A : Option Addr) (n : Nat) (c : Nat) (xs : List (Int)) (A2 : Option Addr) (n2 : Nat) (c2 : Nat) (ys : List (Int)) (hA : At w A (cells fI xs)) (eA : xs.length = n) (lA : n ≤ c) (hA2 : At w A2 (cells fI ys)) (eA2 : ys.length = n2) (lA2 : n2 ≤ c2) (hs : xs.length ≤ 1048576) : Calls Try.prog 29 #[.slice A (n) (c), .slice A2 (n2) (c2)] w (Ret fun rv w' => rv = .bool (decide (xs = ys)) ∧ New w w' []) := by
  have oA := hA.atB
  subst eA
  have oA2 := hA2.atB
  subst eA2
  refine fn_enter (args := [.slice A (xs.length) (c), .slice A2 (ys.length) (c2)]) Try.func29 rfl Try.ntmps29 rfl (SS.start w) ?_
  refine cw_seq ?_
  refine cw_region ?_
  refine wl_v (ov_assign rfl) rfl rfl rfl ?_
  refine wl_nil ?_
  refine ce_then ?_
  refine cw_seq ?_
  refine cw_seq ?_
  refine cw_region ?_
  refine wl_v (ov_move rfl) rfl rfl rfl ?_
  refine wl_v (ov_len (sliceI_spec sI22) rfl) rfl rfl rfl ?_
  refine wl_v (ov_move rfl) rfl rfl rfl ?_
  refine wl_v (ov_len (sliceI_spec sI22) rfl) rfl rfl rfl ?_
  refine wl_if (ov_neq rfl rfl) rfl rfl rfl (fun c10 => ?_) (fun c10 => ?_)
  ·
    refine wl_nil ?_
    refine ce_then ?_
    refine cw_true rfl ?_
    refine cw_seq ?_
    refine cw_region ?_
    refine wl_v (ov_assign rfl) rfl rfl rfl ?_
    refine wl_nil ?_
    refine ce_then ?_
    refine cw_ret ?_
    refine ce_then_ret ?_
    refine ce_results (v := .bool false) (res1 rfl (rv_t rfl)) (fun w' hw => ?_)
    exact ⟨(bf (fun h => c10 (by rw [h]))), (Keep.nil.ss hw).to_new⟩
  ·
    refine wl_nil ?_
    refine ce_then ?_
    refine cw_false rfl ?_
    refine cw_skip ?_
    refine ce_then ?_
    refine cw_seq ?_
    refine cw_seq ?_
    refine cw_region ?_
    refine wl_v (ov_move rfl) rfl rfl rfl ?_
    refine wl_v (ov_len (sliceI_spec sI22) rfl) rfl rfl rfl ?_
    refine wl_v (ov_move rfl) rfl rfl rfl ?_
    refine wl_nil ?_
    refine ce_then ?_
    refine cw_block ?_
    refine cw_loop1 (fun (k : Nat) => [(0, .slice A (xs.length) (c)), (1, .slice A2 (ys.length) (c2)), (12, .int .i64 (((xs.length : Nat) : Int))), (13, .int .i64 (((k : Nat) : Int)))]) (fun (k : Nat) => []) (fun (k : Nat) => k ≤ xs.length ∧ xs.take k = ys.take k) (fun (k : Nat) => xs.length - k) 0 ⟨by omega, rfl⟩ (.cons rfl (.cons rfl (.cons rfl (.cons (congrArg (fun z => some (Value.int .i64 z)) (show 0 = ((0 : Nat) : Int) by first | omega | rfl | (simp; done))) (.nil))))) (.nil) ?_
    intro R0 k hk hR0
    obtain ⟨hk1, hk2⟩ := hk
    refine cw_seq ?_
    refine cw_region ?_
    refine wl_if (ov_lss rfl rfl) rfl rfl rfl (fun c14 => ?_) (fun c14 => ?_)
    ·
      refine wl_nil ?_
      refine ce_then ?_
      refine cw_seq ?_
      refine cw_true rfl ?_
      refine cw_skip ?_
      refine ce_then ?_
      refine cw_seq ?_
      refine cw_block ?_
      refine cw_seq ?_
      refine cw_region ?_
      refine wl_v (ov_move rfl) rfl rfl rfl ?_
      refine wl_v (ov_assign rfl) rfl rfl rfl ?_
      refine wl_nil ?_
      refine ce_then ?_
      refine cw_seq ?_
      refine cw_draw mixO [] (.nil) rfl ?_
      refine wg_takep (i := 0) rfl (ov_move rfl) rfl rfl rfl (by kernel_rfl) (by kernel_rfl) (by kernel_rfl) rfl ?_
      refine wg_takep (i := 1) rfl (ov_move rfl) rfl rfl rfl (by kernel_rfl) (by kernel_rfl) (by kernel_rfl) rfl ?_
      refine wg_take (i := 2) rfl (ov_index (k := k) (c := c) sI22 tI3 rfl rfl (some_holds (q := k * 1) (holds_old oA) (by rw [cells_length fI_len]; have hlt : k < xs.length := (by first | omega | (simp; omega)); omega)) (show k < xs.length from (by first | omega | (simp; omega)))) rfl rfl rfl (by kernel_rfl) (by kernel_rfl) (by kernel_rfl) (by kernel_rfl) ?_
      refine wg_take (i := 3) rfl (ov_load tI3 (holds_old oA) rfl (get_fI (show k < xs.length from (by first | omega | (simp; omega))))) rfl rfl rfl (by kernel_rfl) (by kernel_rfl) (by kernel_rfl) (by kernel_rfl) ?_
      refine wg_takep (i := 4) rfl (ov_move rfl) rfl rfl rfl (by kernel_rfl) (by kernel_rfl) (by kernel_rfl) rfl ?_
      refine wg_takep (i := 5) rfl (ov_move rfl) rfl rfl rfl (by kernel_rfl) (by kernel_rfl) (by kernel_rfl) rfl ?_
      refine wg_take (i := 6) rfl (ov_index (k := k) (c := c2) sI22 tI3 rfl rfl (some_holds (q := k * 1) (holds_old oA2) (by rw [cells_length fI_len]; have hlt : k < ys.length := (by first | omega | (simp; omega)); omega)) (show k < ys.length from (by first | omega | (simp; omega)))) rfl rfl rfl (by kernel_rfl) (by kernel_rfl) (by kernel_rfl) (by kernel_rfl) ?_
      refine wg_take (i := 7) rfl (ov_load tI3 (holds_old oA2) rfl (get_fI (show k < ys.length from (by first | omega | (simp; omega))))) rfl rfl rfl (by kernel_rfl) (by kernel_rfl) (by kernel_rfl) (by kernel_rfl) ?_
      refine wg_takep_if (i := 8) rfl (ov_neq rfl rfl) rfl rfl rfl (by kernel_rfl) (by kernel_rfl) (by kernel_rfl) rfl (fun c24 => ?_) (fun c24 => ?_)
      ·
        refine wg_done (by kernel_rfl) ?_
        refine ce_then ?_
        refine cw_true rfl ?_
        refine cw_seq ?_
        refine cw_region ?_
        refine wl_v (ov_assign rfl) rfl rfl rfl ?_
        refine wl_nil ?_
        refine ce_then ?_
        refine cw_ret ?_
        refine ce_block_ret ?_
        refine ce_then_ret ?_
        refine ce_then_ret ?_
        refine ce_block_ret ?_
        refine ce_then_ret ?_
        refine ce_results (v := .bool false) (res1 rfl (rv_t rfl)) (fun w' hw => ?_)
        exact ⟨(bf (fun h => c24 (by rw [h]))), (Keep.nil.ss hw).to_new⟩
      ·
        refine wg_done (by kernel_rfl) ?_
        refine ce_then ?_
        refine cw_false rfl ?_
        refine cw_skip ?_
        refine ce_block ?_
        refine ce_then ?_
        refine cw_region ?_
        refine wl_v (ov_add (r := ((k + 1 : Nat) : Int)) rfl rfl rfl (by omega)) rfl rfl rfl ?_
        refine wl_v (ov_move rfl) rfl rfl rfl ?_
        refine wl_nil ?_
        exact fun a w hs => hR0 (k + 1) ⟨by omega, take_eq_step 0 (by omega) (by omega) hk2 (by omega)⟩ (by omega) a w (hs.weaken (.cons rfl (.cons rfl (.cons rfl (.cons rfl (.nil))))) (.nil))
    ·
      refine wl_nil ?_
      refine ce_then ?_
      refine cw_seq ?_
      refine cw_false rfl ?_
      refine cw_exit ?_
      refine ce_then_exit ?_
      refine ce_then_exit ?_
      refine ce_hit ?_
      refine ce_then ?_
      refine cw_seq ?_
      refine cw_region ?_
      refine wl_v (ov_assign rfl) rfl rfl rfl ?_
      refine wl_nil ?_
      refine ce_then ?_
      refine cw_ret ?_
      refine ce_results (v := .bool true) (res1 rfl (rv_t rfl)) (fun w' hw => ?_)
      exact ⟨(bt (by rwa [List.take_of_length_le (by omega), List.take_of_length_le (by omega)] at hk2)), (Keep.nil.ss hw).to_new⟩
set_option maxRecDepth 100000 in
theorem isThreshold_c (w : World) (A : Option Addr) (n : Nat) (c : Nat) (xs : List (Int)) (hA : At w A (cells fI xs)) (eA : xs.length = n) (lA : n ≤ c) (hs : xs.length ≤ 100) : Calls Try.prog 27 #[.slice A (n) (c)] w (Ret fun rv w' => rv = .bool (decide (fall xs = (List.range xs.length).map (corrAt (fall xs)))) ∧ New w w' []) := by
  have oA := hA.atB
  subst eA
  refine fn_enter (args := [.slice A (xs.length) (c)]) Try.func27 rfl Try.ntmps27 rfl (SS.start w) ?_
  refine cw_seq ?_
  refine cw_region ?_
  refine wl_v (ov_assign rfl) rfl rfl rfl ?_
  refine wl_nil ?_
  refine ce_then ?_
  refine cw_seq ?_
  refine cw_region ?_
  refine wl_v (ov_move rfl) rfl rfl rfl ?_
  refine wl_r (or_call (fv := []) (vs := [.slice A (xs.length) (c)]) (cs := []) en54 rfl rfl (call_x2 (fun w hw => fallingS_c w A xs.length c xs ((holds_old oA) w hw) rfl lA (by first | assumption | omega | (simp; omega))))) rfl rfl (kt2p rfl (fun A2_5 c2_5 h_5 => ?_))
  refine wl_v (ov_assign rfl) rfl rfl rfl ?_
  refine wl_nil ?_
  refine ce_then ?_
  refine cw_seq ?_
  refine cw_region ?_
  refine wl_v (ov_move rfl) rfl rfl rfl ?_
  refine wl_v (ov_move rfl) rfl rfl rfl ?_
  refine wl_r (or_call (fv := []) (vs := [.slice A2_5 (xs.length) (c2_5)]) (cs := []) en56 rfl rfl (call_x2 (fun w hw => corrected_c w A2_5 xs.length c2_5 (fall xs) ((holds_row (List.Mem.head _)) w hw) (fall_length _) h_5 (by rw [fall_length]; omega)))) rfl rfl (kt2p rfl (fun A2_8 c2_8 h_8 => ?_))
  refine wl_r (or_call (fv := []) (vs := [.slice A2_5 (xs.length) (c2_5), .slice A2_8 (xs.length) (c2_8)]) (cs := []) en55 rfl rfl (call_v (fun w hw => same_c w A2_5 xs.length c2_5 (fall xs) A2_8 xs.length c2_8 ((List.range xs.length).map (corrAt (fall xs))) ((holds_row (List.Mem.tail _ (List.Mem.head _))) w hw) (fall_length _) h_5 ((holds_row (List.Mem.head _)) w hw) (by simp) h_8 (by rw [fall_length]; omega)))) rfl rfl (kt_if rfl (fun c9 => ?_) (fun c9 => ?_))
  ·
    refine wl_v (ov_assign rfl) rfl rfl rfl ?_
    refine wl_nil ?_
    refine ce_then ?_
    refine cw_ret ?_
    refine ce_results (v := .bool true) (res1 rfl (rv_t rfl)) (fun w' hw => ?_)
    exact ⟨bt (by first | assumption | omega | simp_all), (Keep.nil.ss hw).to_new⟩
  ·
    refine wl_v (ov_assign rfl) rfl rfl rfl ?_
    refine wl_nil ?_
    refine ce_then ?_
    refine cw_ret ?_
    refine ce_results (v := .bool false) (res1 rfl (rv_t rfl)) (fun w' hw => ?_)
    exact ⟨bf (by first | assumption | omega | simp_all), (Keep.nil.ss hw).to_new⟩
set_option maxRecDepth 100000 in
theorem IsThresholdS_c (w : World) (A : Option Addr) (n : Nat) (c : Nat) (xs : List (Int)) (hA : At w A (cells fI xs)) (eA : xs.length = n) (lA : n ≤ c) (hs : xs.length ≤ 1048576) : Calls Try.prog 10 #[.slice A (n) (c)] w (Ret fun rv w' => rv = .bool (decide (Valid xs ∧ fall xs = corrV xs)) ∧ New w w' []) := by
  have oA := hA.atB
  subst eA
  refine fn_enter (args := [.slice A (xs.length) (c)]) Try.func10 rfl Try.ntmps10 rfl (SS.start w) ?_
  refine cw_seq ?_
  refine cw_region ?_
  refine wl_v (ov_assign rfl) rfl rfl rfl ?_
  refine wl_nil ?_
  refine ce_then ?_
  refine cw_seq ?_
  refine cw_region ?_
  refine wl_v (ov_move rfl) rfl rfl rfl ?_
  refine wl_r (or_call (fv := []) (vs := [.slice A (xs.length) (c)]) (cs := []) en26 rfl rfl (call_v (fun w hw => validS_c w A xs.length c xs ((holds_old oA) w hw) rfl lA (by first | assumption | omega | (simp; omega))))) rfl rfl (kt_if rfl (fun c4 => ?_) (fun c4 => ?_))
  ·
    have hlen := c4.1
    have hyes : corrV xs = (List.range xs.length).map (corrAt (fall xs)) := if_pos c4
    refine wl_v (ov_move rfl) rfl rfl rfl ?_
    refine wl_go rfl rfl ?_
    refine wl_v (ov_move rfl) rfl rfl rfl ?_
    refine wl_go rfl rfl ?_
    refine wl_r (or_call (fv := []) (vs := [.slice A (xs.length) (c)]) (cs := []) en27 rfl rfl (call_v (fun w hw => isThreshold_c w A xs.length c xs ((holds_old oA) w hw) rfl lA (by first | assumption | omega | (simp; omega))))) rfl rfl (kt_if rfl (fun c7 => ?_) (fun c7 => ?_))
    ·
      refine wl_v (ov_pick_t rfl rfl) rfl rfl rfl ?_
      refine wl_v (ov_assign rfl) rfl rfl rfl ?_
      refine wl_nil ?_
      refine ce_then ?_
      refine cw_ret ?_
      refine ce_results (v := .bool true) (res1 rfl (rv_t rfl)) (fun w' hw => ?_)
      exact ⟨(bt ⟨c4, by rw [hyes]; exact c7⟩), (Keep.nil.ss hw).to_new⟩
    ·
      refine wl_v (ov_pick_t rfl rfl) rfl rfl rfl ?_
      refine wl_v (ov_assign rfl) rfl rfl rfl ?_
      refine wl_nil ?_
      refine ce_then ?_
      refine cw_ret ?_
      refine ce_results (v := .bool false) (res1 rfl (rv_t rfl)) (fun w' hw => ?_)
      exact ⟨(bf (fun h => c7 (by rw [← hyes]; exact h.2))), (Keep.nil.ss hw).to_new⟩
  ·
    refine wl_v (ov_move rfl) rfl rfl rfl ?_
    refine wl_not rfl rfl rfl rfl rfl rfl ?_
    refine wl_not rfl rfl rfl rfl rfl rfl ?_
    refine wl_v (ov_pick_f rfl rfl) rfl rfl rfl ?_
    refine wl_v (ov_assign rfl) rfl rfl rfl ?_
    refine wl_nil ?_
    refine ce_then ?_
    refine cw_ret ?_
    refine ce_results (v := .bool false) (res1 rfl (rv_t rfl)) (fun w' hw => ?_)
    exact ⟨(bf (fun h => c4 h.1)), (Keep.nil.ss hw).to_new⟩
set_option maxRecDepth 100000 in
theorem IsThresholdI_c (w : World) (A : Option Addr) (n : Nat) (c : Nat) (xs : List (Int)) (hA : At w A (cells fI xs)) (eA : xs.length = n) (lA : n ≤ c) (hs : xs.length ≤ 1048576) : Calls Try.prog 12 #[.slice A (n) (c)] w (Ret fun rv w' => rv = .bool (decide (Valid xs ∧ fall xs = corrV xs)) ∧ New w w' []) := by
  have oA := hA.atB
  subst eA
  refine fn_enter (args := [.slice A (xs.length) (c)]) Try.func12 rfl Try.ntmps12 rfl (SS.start w) ?_
  refine cw_seq ?_
  refine cw_region ?_
  refine wl_v (ov_assign rfl) rfl rfl rfl ?_
  refine wl_nil ?_
  refine ce_then ?_
  refine cw_seq ?_
  refine cw_region ?_
  refine wl_v (ov_move rfl) rfl rfl rfl ?_
  refine wl_r (or_call (fv := []) (vs := [.slice A (xs.length) (c)]) (cs := []) en28 rfl rfl (call_v (fun w hw => validI_c w A xs.length c xs ((holds_old oA) w hw) rfl lA (by first | assumption | omega | (simp; omega))))) rfl rfl (kt_if rfl (fun c4 => ?_) (fun c4 => ?_))
  ·
    have hlen := c4.1
    refine wl_v (ov_move rfl) rfl rfl rfl ?_
    refine wl_go rfl rfl ?_
    refine wl_v (ov_move rfl) rfl rfl rfl ?_
    refine wl_go rfl rfl ?_
    refine wl_r (or_call (fv := []) (vs := [.slice A (xs.length) (c)]) (cs := []) en30 rfl rfl (call_x2 (fun w hw => fallingI_c w A xs.length c xs ((holds_old oA) w hw) rfl lA (by first | assumption | omega | (simp; omega))))) rfl rfl (kt2p rfl (fun A2_7 c2_7 h_7 => ?_))
    refine wl_go rfl rfl ?_
    refine wl_v (ov_move rfl) rfl rfl rfl ?_
    refine wl_go rfl rfl ?_
    refine wl_r (or_call (fv := []) (vs := [.slice A (xs.length) (c)]) (cs := []) en31 rfl rfl (call_x2 (fun w hw => CorrectedOfI_c w A xs.length c xs ((holds_old oA) w hw) rfl lA (by first | assumption | omega | (simp; omega))))) rfl rfl (kt2p rfl (fun A2_9 c2_9 h_9 => ?_))
    refine wl_go rfl rfl ?_
    refine wl_r (or_call (fv := []) (vs := [.slice A2_7 (xs.length) (xs.length), .slice A2_9 ((corrV xs).length) (c2_9)]) (cs := []) en29 rfl rfl (call_v (fun w hw => equal_c w A2_7 xs.length xs.length (fall xs) A2_9 ((corrV xs).length) c2_9 (corrV xs) ((holds_row (List.Mem.tail _ (List.Mem.head _))) w hw) (fall_length _) (Nat.le_refl _) ((holds_row (List.Mem.head _)) w hw) rfl h_9 (by rw [fall_length]; omega)))) rfl rfl (kt_if rfl (fun c10 => ?_) (fun c10 => ?_))
    ·
      refine wl_v (ov_pick_t rfl rfl) rfl rfl rfl ?_
      refine wl_v (ov_assign rfl) rfl rfl rfl ?_
      refine wl_nil ?_
      refine ce_then ?_
      refine cw_ret ?_
      refine ce_results (v := .bool true) (res1 rfl (rv_t rfl)) (fun w' hw => ?_)
      exact ⟨bt (by first | assumption | omega | simp_all), (Keep.nil.ss hw).to_new⟩
    ·
      refine wl_v (ov_pick_t rfl rfl) rfl rfl rfl ?_
      refine wl_v (ov_assign rfl) rfl rfl rfl ?_
      refine wl_nil ?_
      refine ce_then ?_
      refine cw_ret ?_
      refine ce_results (v := .bool false) (res1 rfl (rv_t rfl)) (fun w' hw => ?_)
      exact ⟨bf (by first | assumption | omega | simp_all), (Keep.nil.ss hw).to_new⟩
  ·
    refine wl_v (ov_move rfl) rfl rfl rfl ?_
    refine wl_not rfl rfl rfl rfl rfl rfl ?_
    refine wl_not rfl rfl rfl rfl rfl rfl ?_
    refine wl_not rfl rfl rfl rfl rfl rfl ?_
    refine wl_not rfl rfl rfl rfl rfl rfl ?_
    refine wl_not rfl rfl rfl rfl rfl rfl ?_
    refine wl_v (ov_pick_f rfl rfl) rfl rfl rfl ?_
    refine wl_v (ov_assign rfl) rfl rfl rfl ?_
    refine wl_nil ?_
    refine ce_then ?_
    refine cw_ret ?_
    refine ce_results (v := .bool false) (res1 rfl (rv_t rfl)) (fun w' hw => ?_)
    exact ⟨bf (by first | assumption | omega | simp_all), (Keep.nil.ss hw).to_new⟩
end Go.Proofs.Ytlmohafmpgpnaab.W8
