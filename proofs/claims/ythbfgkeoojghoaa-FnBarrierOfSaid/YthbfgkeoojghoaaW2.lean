/- Walks of functions of the given program: each returns what its Lean function says and leaves the memory that was there as it was. Conditions: those of each theorem. -/
import Derived.Test.YthbfgkeoojghoaaSm
import Derived.Test.YthbfgkeoojghoaaProg
import Derived.Test.YthbfgkeoojghoaaPl
import Derived.Test.YthbfgkeoojghoaaPo
import Derived.Test.YthbfgkeoojghoaaPd
import Derived.Test.YthbfgkeoojghoaaPe
import Derived.Test.YthbfgkeoojghoaaPh
import Derived.Test.YthbfgkeoojghoaaPm
import Derived.Test.YthbfgkeoojghoaaPc
import Derived.Test.YthbfgkeoojghoaaPs
import Derived.Test.YthbfgkeoojghoaaPt
import Derived.Test.YthbfgkeoojghoaaPu
import Derived.Test.YthbfgkeoojghoaaPv
import Derived.Test.YthbfgkeoojghoaaPw
import Derived.Test.YthbfgkeoojghoaaPx
import Derived.Test.YthbfgkeoojghoaaPy
import Derived.Test.YthbfgkeoojghoaaPz
import Derived.Test.YthbfgkeoojghoaaSo
import Derived.Test.YthbfgkeoojghoaaSh
import Derived.Test.YthbfgkeoojghoaaT
import Derived.KernelRfl
namespace Go.Proofs.Ythbfgkeoojghoaa.W2
open Go.Sx Go.RowKit Go.Proofs.Ythbfgkeoojghoaa.T
open Go.Plain
set_option linter.unusedVariables false
set_option maxRecDepth 100000 in
theorem in_c (w : World) (m : Int) (lo : Int) (hi : Int)  : Calls Try.prog 58 #[.int .i64 (m), .int .i64 (lo), .int .i64 (hi)] w (Ret fun rv w' => rv = .bool (decide (lo ≤ m ∧ m ≤ hi)) ∧ New w w' []) := by
  refine fn_enter (args := [.int .i64 (m), .int .i64 (lo), .int .i64 (hi)]) Try.func58 rfl Try.ntmps58 rfl (SS.start w) ?_
  refine cw_seq ?_
  refine cw_region ?_
  refine wl_v (ov_assign rfl) rfl rfl rfl ?_
  refine wl_nil ?_
  refine ce_then ?_
  refine cw_seq ?_
  refine cw_region ?_
  refine wl_v (ov_move rfl) rfl rfl rfl ?_
  refine wl_v (ov_move rfl) rfl rfl rfl ?_
  refine wl_if (ov_geq rfl rfl) rfl rfl rfl (fun c9 => ?_) (fun c9 => ?_)
  ·
    refine wl_v (ov_move rfl) rfl rfl rfl ?_
    refine wl_go rfl rfl ?_
    refine wl_v (ov_move rfl) rfl rfl rfl ?_
    refine wl_go rfl rfl ?_
    refine wl_v (ov_move rfl) rfl rfl rfl ?_
    refine wl_go rfl rfl ?_
    refine wl_if (ov_leq rfl rfl) rfl rfl rfl (fun c13 => ?_) (fun c13 => ?_)
    ·
      refine wl_v (ov_pick_t rfl rfl) rfl rfl rfl ?_
      refine wl_v (ov_assign rfl) rfl rfl rfl ?_
      refine wl_nil ?_
      refine ce_then ?_
      refine cw_ret ?_
      refine ce_results (v := .bool true) (res1 rfl (rv_t rfl)) (fun w' hw => ?_)
      exact ⟨bt (by first | assumption | omega | simp_all), (Keep.nil.ss hw).to_new⟩
    ·
      refine wl_v (ov_pick_t rfl rfl) rfl rfl rfl ?_
      refine wl_v (ov_assign rfl) rfl rfl rfl ?_
      refine wl_nil ?_
      refine ce_then ?_
      refine cw_ret ?_
      refine ce_results (v := .bool false) (res1 rfl (rv_t rfl)) (fun w' hw => ?_)
      exact ⟨bf (by first | assumption | omega | simp_all), (Keep.nil.ss hw).to_new⟩
  ·
    refine wl_v (ov_move rfl) rfl rfl rfl ?_
    refine wl_not rfl rfl rfl rfl rfl rfl ?_
    refine wl_not rfl rfl rfl rfl rfl rfl ?_
    refine wl_not rfl rfl rfl rfl rfl rfl ?_
    refine wl_v (ov_pick_f rfl rfl) rfl rfl rfl ?_
    refine wl_v (ov_assign rfl) rfl rfl rfl ?_
    refine wl_nil ?_
    refine ce_then ?_
    refine cw_ret ?_
    refine ce_results (v := .bool false) (res1 rfl (rv_t rfl)) (fun w' hw => ?_)
    exact ⟨bf (by first | assumption | omega | simp_all), (Keep.nil.ss hw).to_new⟩
set_option maxRecDepth 100000 in
theorem indexFunc_c (w : World) (A : Option Addr) (n : Nat) (c : Nat) (xs : List (Int)) (Fc : FuncId) (cs : List Value) (p : Int → Bool) (hA : At w A (cells fI xs)) (eA : xs.length = n) (lA : n ≤ c) (hs : xs.length ≤ 4000000) (hen : Enters Try.prog Fc) (hf : ∀ x ∈ xs, ∀ w', Below w.heap.size w w' → Calls Try.prog Fc ([] ++ [Value.int .i64 x] ++ cs).toArray w' (Ret fun v w'' => v = .bool (p x) ∧ New w' w'' [])) : Calls Try.prog 100 #[.slice A (n) (c), .func (.func Fc) #[] cs.toArray] w (Ret fun rv w' => rv = .int .i64 (idxF p xs) ∧ New w w' []) := by
  have oA := hA.atB
  subst eA
  refine fn_enter (args := [.slice A (xs.length) (c), .func (.func Fc) #[] cs.toArray]) Try.func100 rfl Try.ntmps100 rfl (SS.start w) ?_
  refine cw_seq ?_
  refine cw_region ?_
  refine wl_v (ov_assign rfl) rfl rfl rfl ?_
  refine wl_nil ?_
  refine ce_then ?_
  refine cw_seq ?_
  refine cw_seq ?_
  refine cw_region ?_
  refine wl_v (ov_move rfl) rfl rfl rfl ?_
  refine wl_v (ov_len (sliceI_spec sI27) rfl) rfl rfl rfl ?_
  refine wl_v (ov_move rfl) rfl rfl rfl ?_
  refine wl_nil ?_
  refine ce_then ?_
  refine cw_block ?_
  refine cw_loop1 (fun (k : Nat) => [(0, .slice A (xs.length) (c)), (1, .func (.func Fc) #[] cs.toArray), (7, .int .i64 (((xs.length : Nat) : Int))), (8, .int .i64 (((k : Nat) : Int)))]) (fun (k : Nat) => []) (fun (k : Nat) => k ≤ xs.length ∧ ∀ x ∈ xs.take k, p x = false) (fun (k : Nat) => xs.length - k) 0 ⟨by omega, by simp⟩ (.cons rfl (.cons rfl (.cons rfl (.cons (congrArg (fun z => some (Value.int .i64 z)) (show 0 = ((0 : Nat) : Int) by first | omega | rfl | (simp; done))) (.nil))))) (.nil) ?_
  intro R0 k hk hR0
  obtain ⟨hk1, hk2⟩ := hk
  refine cw_seq ?_
  refine cw_region ?_
  refine wl_if (ov_lss rfl rfl) rfl rfl rfl (fun c9 => ?_) (fun c9 => ?_)
  ·
    refine wl_nil ?_
    refine ce_then ?_
    refine cw_seq ?_
    refine cw_true rfl ?_
    refine cw_skip ?_
    refine ce_then ?_
    refine cw_seq ?_
    refine cw_block ?_
    refine cw_seq ?_
    refine cw_region ?_
    refine wl_v (ov_move rfl) rfl rfl rfl ?_
    refine wl_v (ov_assign rfl) rfl rfl rfl ?_
    refine wl_nil ?_
    refine ce_then ?_
    refine cw_seq ?_
    refine cw_region ?_
    refine wl_v (ov_move rfl) rfl rfl rfl ?_
    refine wl_v (ov_move rfl) rfl rfl rfl ?_
    refine wl_v (ov_move rfl) rfl rfl rfl ?_
    refine wl_v (ov_index (k := k) (c := c) sI27 tI3 rfl rfl (some_holds (q := k * 1) (holds_old oA) (by rw [cells_length fI_len]; have hlt : k < xs.length := (by first | omega | (simp; omega)); omega)) (show k < xs.length from (by first | omega | (simp; omega)))) rfl rfl rfl ?_
    refine wl_v (ov_load tI3 (holds_old oA) rfl (get_fI (show k < xs.length from (by first | omega | (simp; omega))))) rfl rfl rfl ?_
    refine wl_r (or_call (fv := []) (vs := [.int .i64 ((xs.getD k 0))]) (cs := cs) hen rfl rfl (call_v (fun w hw => hf _ (getD_mem 0 (by omega)) w hw.below))) rfl rfl (kt_ifb rfl (fun c16 => ?_) (fun c16 => ?_))
    ·
      refine wl_nil ?_
      refine ce_then ?_
      refine cw_true rfl ?_
      refine cw_seq ?_
      refine cw_region ?_
      refine wl_v (ov_move rfl) rfl rfl rfl ?_
      refine wl_v (ov_assign rfl) rfl rfl rfl ?_
      refine wl_nil ?_
      refine ce_then ?_
      refine cw_ret ?_
      refine ce_block_ret ?_
      refine ce_then_ret ?_
      refine ce_then_ret ?_
      refine ce_block_ret ?_
      refine ce_then_ret ?_
      refine ce_results (v := .int .i64 (((k : Nat) : Int))) (res1 rfl (rv_t rfl)) (fun w' hw => ?_)
      exact ⟨(by rw [idxF_found 0 (by omega) hk2 c16]), (Keep.nil.ss hw).to_new⟩
    ·
      refine wl_nil ?_
      refine ce_then ?_
      refine cw_false rfl ?_
      refine cw_skip ?_
      refine ce_block ?_
      refine ce_then ?_
      refine cw_region ?_
      refine wl_v (ov_add (r := ((k + 1 : Nat) : Int)) rfl rfl rfl (by omega)) rfl rfl rfl ?_
      refine wl_v (ov_move rfl) rfl rfl rfl ?_
      refine wl_nil ?_
      exact fun ac_ w_ hs_ => hR0 (k + 1) ⟨by omega, all_take_step 0 (by omega) hk2 c16⟩ (by omega) ac_ w_ (hs_.weaken (.cons rfl (.cons rfl (.cons rfl (.cons rfl (.nil))))) (.nil))
  ·
    refine wl_nil ?_
    refine ce_then ?_
    refine cw_seq ?_
    refine cw_false rfl ?_
    refine cw_exit ?_
    refine ce_then_exit ?_
    refine ce_then_exit ?_
    refine ce_hit ?_
    refine ce_then ?_
    refine cw_seq ?_
    refine cw_region ?_
    refine wl_v (ov_assign rfl) rfl rfl rfl ?_
    refine wl_nil ?_
    refine ce_then ?_
    refine cw_ret ?_
    refine ce_results (v := .int .i64 (-1)) (res1 rfl (rv_t rfl)) (fun w' hw => ?_)
    exact ⟨(by rw [idxF_none (take_all (k := k) (by omega) hk2)]), (Keep.nil.ss hw).to_new⟩
set_option maxRecDepth 100000 in
theorem clone_c (w : World) (A : Option Addr) (n : Nat) (c : Nat) (xs : List (Int)) (hA : At w A (cells fI xs)) (eA : xs.length = n) (lA : n ≤ c) (hs : xs.length ≤ 4000000) : Calls Try.prog 102 #[.slice A (n) (c)] w (Ret fun rv w' => ∃ A2 c2, (n ≤ c2) ∧ rv = .slice A2 (n) (c2) ∧ New w w' [row 3 1 A2 (n) (c2) (cells fI xs)]) := by
  have oA := hA.atB
  subst eA
  refine fn_enter (args := [.slice A (xs.length) (c)]) Try.func102 rfl Try.ntmps102 rfl (SS.start w) ?_
  refine cw_seq ?_
  refine cw_region ?_
  refine wl_v (ov_assign rfl) rfl rfl rfl ?_
  refine wl_nil ?_
  refine ce_then ?_
  refine cw_seq ?_
  refine cw_seq ?_
  refine cw_region ?_
  refine wl_v (ov_move rfl) rfl rfl rfl ?_
  refine wl_if (ov_eqlnil sI27 rfl rfl) rfl rfl rfl (fun c4 => ?_) (fun c4 => ?_)
  ·
    subst c4; have hx0 := at_none fI_len (by decide) hA; subst hx0
    refine ct_none fI 3 1 ?_
    refine wl_nil ?_
    refine ce_then ?_
    refine cw_true rfl ?_
    refine cw_seq ?_
    refine cw_region ?_
    refine wl_v (ov_assign rfl) rfl rfl rfl ?_
    refine wl_nil ?_
    refine ce_then ?_
    refine cw_ret ?_
    refine ce_then_ret ?_
    refine ce_results (v := .slice none (0) (0)) (res1 rfl (rv_t rfl)) (fun w' hw => ?_)
    exact ⟨none, 0, (Nat.le_refl _), rfl, ((.cons (.head) (.nil) : Keep _ _).ss hw).to_new⟩
  ·
    refine wl_nil ?_
    refine ce_then ?_
    refine cw_false rfl ?_
    refine cw_skip ?_
    refine ce_then ?_
    refine cw_seq ?_
    refine cw_region ?_
    refine wl_r (or_buildSlice (e := 3) (size := 1) (is := []) (vs := []) (cs := cells fI ([])) rfl rfl rfl (by decide) (fun _ => by kernel_rfl)) rfl rfl (kt1 rfl (fun g5 => ?_))
    refine wl_v (ov_move rfl) rfl rfl rfl ?_
    refine wl_r (or_append (c2 := c) sI27 tI3 rfl (by decide) rfl rfl (.head) (holds_old oA) (by rw [cells_length fI_len]; try simp) (one_cells fI_one _) cells_append (by omega) (by omega)) rfl rfl (kt2p rfl (fun A7 c7 h7 => ?_))
    refine wl_v (ov_assign rfl) rfl rfl rfl ?_
    refine wl_nil ?_
    refine ce_then ?_
    refine cw_ret ?_
    refine ce_results (v := .slice A7 (0 + xs.length) (c7)) (res1 rfl (rv_t rfl)) (fun w' hw => ?_)
    exact ⟨A7, c7, (by omega), (by simp), ((.consE (show row 3 1 A7 (0 + xs.length) (c7) (cells fI (([]) ++ xs)) = row 3 1 A7 (xs.length) (c7) (cells fI xs) by simp) (.head) (.nil) : Keep _ _).ss hw).to_new⟩
set_option maxRecDepth 100000 in
theorem clip_c (w : World) (A : Option Addr) (n : Nat) (c : Nat) (xs : List (Int)) (hA : At w A (cells fI xs)) (eA : xs.length = n) (lA : n ≤ c) : Calls Try.prog 101 #[.slice A (n) (c)] w (Ret fun rv w' => rv = .slice A (n) (n) ∧ New w w' []) := by
  have oA := hA.atB
  subst eA
  refine fn_enter (args := [.slice A (xs.length) (c)]) Try.func101 rfl Try.ntmps101 rfl (SS.start w) ?_
  refine cw_seq ?_
  refine cw_region ?_
  refine wl_v (ov_assign rfl) rfl rfl rfl ?_
  refine wl_nil ?_
  refine ce_then ?_
  refine cw_seq ?_
  refine cw_region ?_
  refine wl_v (ov_move rfl) rfl rfl rfl ?_
  refine wl_v (ov_move rfl) rfl rfl rfl ?_
  refine wl_v (ov_len (sliceI_spec sI27) rfl) rfl rfl rfl ?_
  refine wl_v (ov_move rfl) rfl rfl rfl ?_
  refine wl_v (ov_len (sliceI_spec sI27) rfl) rfl rfl rfl ?_
  refine wl_v (ov_slice_hm (h := xs.length) (mx := xs.length) sI27 tI3 rfl rfl rfl (Nat.le_refl _) lA) rfl rfl rfl ?_
  refine wl_v (ov_assign rfl) rfl rfl rfl ?_
  refine wl_nil ?_
  refine ce_then ?_
  refine cw_ret ?_
  refine ce_results (v := .slice A (xs.length) (xs.length)) (res1 rfl (rv_t rfl)) (fun w' hw => ?_)
  exact ⟨rfl, (Keep.nil.ss hw).to_new⟩
set_option maxRecDepth 100000 in
theorem cloneC_c (w : World) (A : Option Addr) (n : Nat) (c : Nat) (xs : List (Int)) (hA : At w A (cells fI xs)) (eA : xs.length = n) (lA : n ≤ c) (hs : xs.length ≤ 4000000) : Calls Try.prog 53 #[.slice A (n) (c)] w (Ret fun rv w' => ∃ A2 c2, (n ≤ c2) ∧ rv = .slice A2 (n) (n) ∧ New w w' [row 3 1 A2 (n) (c2) (cells fI xs)]) := by
  have oA := hA.atB
  subst eA
  refine fn_enter (args := [.slice A (xs.length) (c)]) Try.func53 rfl Try.ntmps53 rfl (SS.start w) ?_
  refine cw_seq ?_
  refine cw_region ?_
  refine wl_v (ov_assign rfl) rfl rfl rfl ?_
  refine wl_nil ?_
  refine ce_then ?_
  refine cw_seq ?_
  refine cw_region ?_
  refine wl_v (ov_move rfl) rfl rfl rfl ?_
  refine wl_r (or_call (fv := []) (vs := [.slice A (xs.length) (c)]) (cs := []) en102 rfl rfl (call_x2 (fun w hw => clone_c w A xs.length c xs ((holds_old oA) w hw) rfl lA (by first | assumption | omega | (simp; omega))))) rfl rfl (kt2p rfl (fun A2_4 c2_4 h_4 => ?_))
  refine wl_r (or_call (fv := []) (vs := [.slice A2_4 (xs.length) (c2_4)]) (cs := []) en101 rfl rfl (call_v (fun w hw => clip_c w A2_4 xs.length c2_4 xs ((holds_row (List.Mem.head _)) w hw) rfl h_4))) rfl rfl (kt0 rfl ?_)
  refine wl_v (ov_assign rfl) rfl rfl rfl ?_
  refine wl_nil ?_
  refine ce_then ?_
  refine cw_ret ?_
  refine ce_results (v := .slice A2_4 (xs.length) (xs.length)) (res1 rfl (rv_t rfl)) (fun w' hw => ?_)
  exact ⟨A2_4, c2_4, h_4, rfl, ((.cons (.head) (.nil) : Keep _ _).ss hw).to_new⟩
end Go.Proofs.Ythbfgkeoojghoaa.W2
