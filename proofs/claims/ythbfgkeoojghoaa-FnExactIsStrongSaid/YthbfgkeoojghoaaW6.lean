/- Walks of functions of the given program: each returns what its Lean function says and leaves the memory that was there as it was. Conditions: those of each theorem. -/
import Derived.Test.YthbfgkeoojghoaaSm
import Derived.Test.YthbfgkeoojghoaaProg
import Derived.Test.YthbfgkeoojghoaaPl
import Derived.Test.YthbfgkeoojghoaaPo
import Derived.Test.YthbfgkeoojghoaaPd
import Derived.Test.YthbfgkeoojghoaaPe
import Derived.Test.YthbfgkeoojghoaaPh
import Derived.Test.YthbfgkeoojghoaaPm
import Derived.Test.YthbfgkeoojghoaaPc
import Derived.Test.YthbfgkeoojghoaaPs
import Derived.Test.YthbfgkeoojghoaaPt
import Derived.Test.YthbfgkeoojghoaaPu
import Derived.Test.YthbfgkeoojghoaaPv
import Derived.Test.YthbfgkeoojghoaaPw
import Derived.Test.YthbfgkeoojghoaaSo
import Derived.Test.YthbfgkeoojghoaaSh
import Derived.Test.YthbfgkeoojghoaaT
import Derived.Test.YthbfgkeoojghoaaW2
import Derived.KernelRfl
namespace Go.Proofs.Ythbfgkeoojghoaa.W6
open Go.Sx Go.RowKit Go.Proofs.Ythbfgkeoojghoaa.T Go.Proofs.Ythbfgkeoojghoaa.W2
open Go.Plain
set_option linter.unusedVariables false
set_option maxRecDepth 100000 in
theorem sort_c (w : World) (w0 : World) (Bd : Nat) (F : List Ent) (A : Option Addr) (n : Nat) (c : Nat) (cv : Nat) (xs : List (Int)) (eA : xs.length = n) (lA : n ≤ cv) (hs : n ≤ 1000000000) (hss : SS w0 Bd ((row 3 1 A (n) (c) (cells fI xs)) :: F) w) : Calls Try.prog 122 #[.slice A (n) (cv)] w (Ret fun rv w' => rv = undef ∧ SS w0 Bd ((row 3 1 A (n) (c) (cells fI (asc xs))) :: F) w') :=
  Go.Sx.sort_row Sh.sortC w w0 Bd F 3 A n c cv xs eA hs hss
set_option maxRecDepth 100000 in
theorem reverse_c (w : World) (w0 : World) (Bd : Nat) (F : List Ent) (A : Option Addr) (n : Nat) (c : Nat) (cv : Nat) (xs : List (Int)) (eA : xs.length = n) (lA : n ≤ cv) (hs : n ≤ 1000000000) (hss : SS w0 Bd ((row 3 1 A (n) (c) (cells fI xs)) :: F) w) : Calls Try.prog 123 #[.slice A (n) (cv)] w (Ret fun rv w' => rv = undef ∧ SS w0 Bd ((row 3 1 A (n) (c) (cells fI xs.reverse)) :: F) w') := by
  subst eA
  refine fn_enter (args := [.slice A (xs.length) (cv)]) Try.func123 rfl Try.ntmps123 rfl hss ?_
  refine cw_seq ?_
  refine cw_region ?_
  refine wl_v (ov_move rfl) rfl rfl rfl ?_
  refine wl_v (ov_len (sliceI_spec sI27) rfl) rfl rfl rfl ?_
  refine wl_v (ov_sub (r := ((xs.length : Nat) : Int) - 1) rfl rfl rfl (by omega)) rfl rfl rfl ?_
  refine wl_v (ov_assign rfl) rfl rfl rfl ?_
  refine wl_v (ov_assign rfl) rfl rfl rfl ?_
  refine wl_nil ?_
  refine ce_then ?_
  refine cw_block ?_
  refine cw_loop1 (fun (i : Nat) => [(0, .slice A (xs.length) (cv)), (2, .int .i64 (((i : Nat) : Int))), (3, .int .i64 ((xs.length : Int) - 1 - (i : Int)))]) (fun (i : Nat) => (row 3 1 A (xs.length) (c) (cells fI (revTo xs i))) :: F) (fun (i : Nat) => 2 * i ≤ xs.length) (fun (i : Nat) => xs.length - i) 0 (by omega) (.cons rfl (.cons (congrArg (fun z => some (Value.int .i64 z)) (show 0 = ((0 : Nat) : Int) by first | omega | rfl | (simp; done))) (.cons (congrArg (fun z => some (Value.int .i64 z)) (show (((xs.length : Nat) : Int) - 1) = ((xs.length : Int) - 1 - (0 : Int)) by first | omega | rfl | (simp; done))) (.nil)))) (.consE (show row 3 1 A (xs.length) (c) (cells fI xs) = row 3 1 A (xs.length) (c) (cells fI (revTo xs 0)) by rfl) (.head) (.refl)) ?_
  intro R0 i hk hR0
  obtain hi := hk
  refine cw_seq ?_
  refine cw_seq ?_
  refine cw_region ?_
  refine wl_v (ov_move rfl) rfl rfl rfl ?_
  refine wl_v (ov_move rfl) rfl rfl rfl ?_
  refine wl_if (ov_lss rfl rfl) rfl rfl rfl (fun c9 => ?_) (fun c9 => ?_)
  ·
    refine ct_keep (L' := [(0, .slice A (xs.length) (cv)), (2, .int .i64 (((i : Nat) : Int))), (3, .int .i64 (((xs.length - 1 - i : Nat) : Int))), (7, .int .i64 (((i : Nat) : Int))), (8, .int .i64 ((xs.length : Int) - 1 - (i : Int))), (9, .bool true)]) (.cons rfl (.cons rfl (.cons (congrArg (fun z => some (Value.int .i64 z)) (show ((xs.length : Int) - 1 - (i : Int)) = ((xs.length - 1 - i : Nat) : Int) from (by omega))) (.cons rfl (.cons rfl (.cons rfl (.nil))))))) .refl ?_
    refine wl_nil ?_
    refine ce_then ?_
    refine cw_true rfl ?_
    refine cw_skip ?_
    refine ce_then ?_
    refine cw_seq ?_
    refine cw_block ?_
    refine cw_draw mixO [13, 14, 15] (.cons (.head) (.refl)) rfl ?_
    refine wg_takep (i := 0) rfl (ov_move rfl) rfl rfl rfl (by kernel_rfl) (by kernel_rfl) (by kernel_rfl) rfl ?_
    refine wg_takep (i := 1) rfl (ov_move rfl) rfl rfl rfl (by kernel_rfl) (by kernel_rfl) (by kernel_rfl) rfl ?_
    refine wg_takep (i := 2) rfl (ov_move rfl) rfl rfl rfl (by kernel_rfl) (by kernel_rfl) (by kernel_rfl) rfl ?_
    refine wg_takep (i := 3) rfl (ov_move rfl) rfl rfl rfl (by kernel_rfl) (by kernel_rfl) (by kernel_rfl) rfl ?_
    refine wg_takep (i := 4) rfl (ov_move rfl) rfl rfl rfl (by kernel_rfl) (by kernel_rfl) (by kernel_rfl) rfl ?_
    refine wg_takep (i := 5) rfl (ov_move rfl) rfl rfl rfl (by kernel_rfl) (by kernel_rfl) (by kernel_rfl) rfl ?_
    refine wg_take (i := 6) rfl (ov_index (k := xs.length - 1 - i) (c := cv) sI27 tI3 rfl rfl (some_holds (q := (xs.length - 1 - i) * 1) (holds_row (List.Mem.head _)) (by rw [cells_length fI_len]; have hlt : xs.length - 1 - i < (revTo xs i).length := (by first | omega | (simp [revTo_length]; omega)); omega)) (show xs.length - 1 - i < xs.length from (by first | omega | (simp [revTo_length]; omega)))) rfl rfl rfl (by kernel_rfl) (by kernel_rfl) (by kernel_rfl) (by kernel_rfl) ?_
    refine wg_take (i := 7) rfl (ov_load tI3 (holds_row (List.Mem.head _)) rfl (get_fI (show xs.length - 1 - i < (revTo xs i).length from (by first | omega | (simp [revTo_length]; omega))))) rfl rfl rfl (by kernel_rfl) (by kernel_rfl) (by kernel_rfl) (by kernel_rfl) ?_
    refine wg_takep (i := 8) rfl (ov_move rfl) rfl rfl rfl (by kernel_rfl) (by kernel_rfl) (by kernel_rfl) rfl ?_
    refine wg_takep (i := 9) rfl (ov_move rfl) rfl rfl rfl (by kernel_rfl) (by kernel_rfl) (by kernel_rfl) rfl ?_
    refine stg_some (some_holds (q := i * 1) (holds_row (List.Mem.head _)) (by rw [cells_length fI_len]; have hlt : i < (revTo xs i).length := (by first | omega | (simp [revTo_length]; omega)); omega)) (fun hso24 => ?_)
    refine wg_takep (i := 10) rfl (ov_index (k := i) (c := cv) sI27 tI3 rfl rfl (fun _ _ => hso24) (show i < xs.length from (by first | omega | (simp [revTo_length]; omega)))) rfl rfl rfl (by kernel_rfl) (by kernel_rfl) (by kernel_rfl) rfl ?_
    refine wg_take (i := 11) rfl (ov_load tI3 (holds_row (List.Mem.head _)) rfl (get_fI (show i < (revTo xs i).length from (by first | omega | (simp [revTo_length]; omega))))) rfl rfl rfl (by kernel_rfl) (by kernel_rfl) (by kernel_rfl) (by kernel_rfl) ?_
    refine wg_take (i := 12) rfl (ov_index (k := i) (c := cv) sI27 tI3 rfl rfl (some_holds (q := i * 1) (holds_row (List.Mem.head _)) (by rw [cells_length fI_len]; have hlt : i < (revTo xs i).length := (by first | omega | (simp [revTo_length]; omega)); omega)) (show i < xs.length from (by first | omega | (simp [revTo_length]; omega)))) rfl rfl rfl (by kernel_rfl) (by kernel_rfl) (by kernel_rfl) (by kernel_rfl) ?_
    refine wg_one (i := 13) (by kernel_rfl) ?_
    refine go_late0 rfl rfl rfl rfl (or_store_row (vs := [.int .i64 (((revTo xs i).getD (xs.length - 1 - i) 0))]) (cs' := cells fI ((revTo xs i).set i ((revTo xs i).getD (xs.length - 1 - i) 0))) (.head) tI3 rfl rfl rfl rfl (by rw [cells_length fI_len]; have hlt := (show i < (revTo xs i).length from (by first | omega | (simp [revTo_length]; omega))); simp only [List.length_cons, List.length_nil]; omega) (by simp) (cells_splice fI_len (show i < (revTo xs i).length from (by first | omega | (simp [revTo_length]; omega))) ((revTo xs i).getD (xs.length - 1 - i) 0))) (kn0 ?_)
    refine wa_r (i := 14) (by kernel_rfl) rfl rfl rfl (OpV.opR (ov_index (k := xs.length - 1 - i) (c := cv) sI27 tI3 rfl rfl (some_holds (q := (xs.length - 1 - i) * 1) (holds_row (List.Mem.head _)) (by rw [cells_length fI_len]; have hlt : xs.length - 1 - i < ((revTo xs i).set i ((revTo xs i).getD (xs.length - 1 - i) 0)).length := (by first | omega | (simp [revTo_length]; omega)); omega)) (show xs.length - 1 - i < xs.length from (by first | omega | (simp [revTo_length]; omega))))) (kt0 rfl ?_)
    refine wa_r0 (i := 15) (by kernel_rfl) rfl rfl rfl (or_store_row (vs := [.int .i64 (((revTo xs i).getD i 0))]) (cs' := cells fI (((revTo xs i).set i ((revTo xs i).getD (xs.length - 1 - i) 0)).set (xs.length - 1 - i) ((revTo xs i).getD i 0))) (.head) tI3 rfl rfl rfl rfl (by rw [cells_length fI_len]; have hlt := (show xs.length - 1 - i < ((revTo xs i).set i ((revTo xs i).getD (xs.length - 1 - i) 0)).length from (by first | omega | (simp [revTo_length]; omega))); simp only [List.length_cons, List.length_nil]; omega) (by simp) (cells_splice fI_len (show xs.length - 1 - i < ((revTo xs i).set i ((revTo xs i).getD (xs.length - 1 - i) 0)).length from (by first | omega | (simp [revTo_length]; omega))) ((revTo xs i).getD i 0))) (kn0 ?_)
    refine wa_done (by kernel_rfl) ?_
    refine ce_block ?_
    refine ce_then ?_
    refine cw_region ?_
    refine wl_v (ov_move rfl) rfl rfl rfl ?_
    refine wl_v (ov_add (r := ((i + 1 : Nat) : Int)) rfl rfl rfl (by omega)) rfl rfl rfl ?_
    refine wl_v (ov_move rfl) rfl rfl rfl ?_
    refine wl_v (ov_sub (r := ((xs.length - 1 - i : Nat) : Int) - 1) rfl rfl rfl (by omega)) rfl rfl rfl ?_
    refine wl_v (ov_assign rfl) rfl rfl rfl ?_
    refine wl_v (ov_assign rfl) rfl rfl rfl ?_
    refine wl_nil ?_
    exact fun ac_ w_ hs_ => hR0 (i + 1) (by omega) (by omega) ac_ w_ (hs_.weaken (.cons rfl (.cons rfl (.cons (congrArg (fun z => some (Value.int .i64 z)) (show (((xs.length - 1 - i : Nat) : Int) - 1) = ((xs.length : Int) - 1 - ((i + 1) : Int)) by first | omega | rfl | (simp; done))) (.nil)))) (.consE (show row 3 1 A (xs.length) (c) (cells fI (((revTo xs i).set i ((revTo xs i).getD (xs.length - 1 - i) 0)).set (xs.length - 1 - i) ((revTo xs i).getD i 0))) = row 3 1 A (xs.length) (c) (cells fI (revTo xs (i + 1))) by rfl) (.head) (.refl)))
  ·
    refine wl_nil ?_
    refine ce_then ?_
    refine cw_false rfl ?_
    refine cw_exit ?_
    refine ce_then_exit ?_
    refine ce_then_exit ?_
    refine ce_hit ?_
    refine ce_results_n (v := .tuple #[]) (res0 rfl) (fun w' hw => ?_)
    exact ⟨rfl, ((.consE (show row 3 1 A (xs.length) (c) (cells fI (revTo xs i)) = row 3 1 A (xs.length) (c) (cells fI xs.reverse) by rw [revTo_end (by omega) (by omega)]) (.head) (.refl) : Keep _ _).ss hw)⟩
set_option maxRecDepth 100000 in
theorem fallingI_c (w : World) (A : Option Addr) (n : Nat) (c : Nat) (xs : List (Int)) (hA : At w A (cells fI xs)) (eA : xs.length = n) (lA : n ≤ c) (hs : xs.length ≤ 4000000) : Calls Try.prog 81 #[.slice A (n) (c)] w (Ret fun rv w' => ∃ A2 c2, (n ≤ c2) ∧ rv = .slice A2 (n) (n) ∧ New w w' [row 3 1 A2 (n) (c2) (cells fI (fall xs))]) := by
  have oA := hA.atB
  subst eA
  refine fn_enter (args := [.slice A (xs.length) (c)]) Try.func81 rfl Try.ntmps81 rfl (SS.start w) ?_
  refine cw_seq ?_
  refine cw_region ?_
  refine wl_v (ov_assign rfl) rfl rfl rfl ?_
  refine wl_nil ?_
  refine ce_then ?_
  refine cw_seq ?_
  refine cw_region ?_
  refine wl_v (ov_move rfl) rfl rfl rfl ?_
  refine wl_r (or_call (fv := []) (vs := [.slice A (xs.length) (c)]) (cs := []) en53 rfl rfl (call_x2 (fun w hw => cloneC_c w A xs.length c xs ((holds_old oA) w hw) rfl lA (by first | assumption | omega | (simp; omega))))) rfl rfl (kt2p rfl (fun A2_5 c2_5 h_5 => ?_))
  refine wl_v (ov_assign rfl) rfl rfl rfl ?_
  refine wl_nil ?_
  refine ce_then ?_
  refine cw_seq ?_
  refine cw_region ?_
  refine wl_v (ov_move rfl) rfl rfl rfl ?_
  refine wl_r (or_call (fv := []) (vs := [.slice A2_5 (xs.length) (xs.length)]) (cs := []) en122 rfl rfl (call_m (.head) (fun w hw => sort_c w _ _ _ A2_5 xs.length c2_5 xs.length xs rfl (Nat.le_refl _) (by omega) hw))) rfl rfl (kt0 rfl ?_)
  refine wl_nil ?_
  refine ce_then ?_
  refine cw_seq ?_
  refine cw_region ?_
  refine wl_v (ov_move rfl) rfl rfl rfl ?_
  refine wl_r (or_call (fv := []) (vs := [.slice A2_5 (xs.length) (xs.length)]) (cs := []) en123 rfl rfl (call_m (.head) (fun w hw => reverse_c w _ _ _ A2_5 xs.length c2_5 xs.length (asc xs) (asc_length _) (Nat.le_refl _) (by omega) hw))) rfl rfl (kt0 rfl ?_)
  refine wl_nil ?_
  refine ce_then ?_
  refine cw_seq ?_
  refine cw_region ?_
  refine wl_v (ov_move rfl) rfl rfl rfl ?_
  refine wl_v (ov_assign rfl) rfl rfl rfl ?_
  refine wl_nil ?_
  refine ce_then ?_
  refine cw_ret ?_
  refine ce_results (v := .slice A2_5 (xs.length) (xs.length)) (res1 rfl (rv_t rfl)) (fun w' hw => ?_)
  exact ⟨A2_5, c2_5, h_5, rfl, ((.consE (show row 3 1 A2_5 (xs.length) (c2_5) (cells fI ((asc xs).reverse)) = row 3 1 A2_5 (xs.length) (c2_5) (cells fI (fall xs)) by rw [fall_asc]) (.head) (.nil) : Keep _ _).ss hw).to_new⟩
end Go.Proofs.Ythbfgkeoojghoaa.W6
