/- Walks of functions of the given program: each returns what its Lean function says and leaves the memory that was there as it was. Conditions: those of each theorem. -/
import Derived.Test.YtholcpgoioaccaaSm
import Derived.Test.YtholcpgoioaccaaProg
import Derived.Test.YtholcpgoioaccaaPl
import Derived.Test.YtholcpgoioaccaaPo
import Derived.Test.YtholcpgoioaccaaPd
import Derived.Test.YtholcpgoioaccaaPe
import Derived.Test.YtholcpgoioaccaaPh
import Derived.Test.YtholcpgoioaccaaPm
import Derived.Test.YtholcpgoioaccaaPc
import Derived.Test.YtholcpgoioaccaaPs
import Derived.Test.YtholcpgoioaccaaPt
import Derived.Test.YtholcpgoioaccaaPu
import Derived.Test.YtholcpgoioaccaaPv
import Derived.Test.YtholcpgoioaccaaSo
import Derived.Test.YtholcpgoioaccaaSh
import Derived.Test.YtholcpgoioaccaaT
import Derived.KernelRfl
namespace Go.Proofs.Ytholcpgoioaccaa.W2
open Go.Sx Go.RowKit Go.Proofs.Ytholcpgoioaccaa.T
open Go.Plain
set_option linter.unusedVariables false
set_option maxRecDepth 100000 in
theorem in_c (w : World) (m : Int) (lo : Int) (hi : Int)  : Calls Try.prog 40 #[.int .i64 (m), .int .i64 (lo), .int .i64 (hi)] w (Ret fun rv w' => rv = .bool (decide (lo ≤ m ∧ m ≤ hi)) ∧ New w w' []) := by
  refine fn_enter (args := [.int .i64 (m), .int .i64 (lo), .int .i64 (hi)]) Try.func40 rfl Try.ntmps40 rfl (SS.start w) ?_
  refine cw_seq ?_
  refine cw_region ?_
  refine wl_v (ov_assign rfl) rfl rfl rfl ?_
  refine wl_nil ?_
  refine ce_then ?_
  refine cw_seq ?_
  refine cw_region ?_
  refine wl_v (ov_move rfl) rfl rfl rfl ?_
  refine wl_v (ov_move rfl) rfl rfl rfl ?_
  refine wl_if (ov_geq rfl rfl) rfl rfl rfl (fun c9 => ?_) (fun c9 => ?_)
  ·
    refine wl_v (ov_move rfl) rfl rfl rfl ?_
    refine wl_go rfl rfl ?_
    refine wl_v (ov_move rfl) rfl rfl rfl ?_
    refine wl_go rfl rfl ?_
    refine wl_v (ov_move rfl) rfl rfl rfl ?_
    refine wl_go rfl rfl ?_
    refine wl_if (ov_leq rfl rfl) rfl rfl rfl (fun c13 => ?_) (fun c13 => ?_)
    ·
      refine wl_v (ov_pick_t rfl rfl) rfl rfl rfl ?_
      refine wl_v (ov_assign rfl) rfl rfl rfl ?_
      refine wl_nil ?_
      refine ce_then ?_
      refine cw_ret ?_
      refine ce_results (v := .bool true) (res1 rfl (rv_t rfl)) (fun w' hw => ?_)
      exact ⟨bt (by first | assumption | omega | simp_all), (Keep.nil.ss hw).to_new⟩
    ·
      refine wl_v (ov_pick_t rfl rfl) rfl rfl rfl ?_
      refine wl_v (ov_assign rfl) rfl rfl rfl ?_
      refine wl_nil ?_
      refine ce_then ?_
      refine cw_ret ?_
      refine ce_results (v := .bool false) (res1 rfl (rv_t rfl)) (fun w' hw => ?_)
      exact ⟨bf (by first | assumption | omega | simp_all), (Keep.nil.ss hw).to_new⟩
  ·
    refine wl_v (ov_move rfl) rfl rfl rfl ?_
    refine wl_not rfl rfl rfl rfl rfl rfl ?_
    refine wl_not rfl rfl rfl rfl rfl rfl ?_
    refine wl_not rfl rfl rfl rfl rfl rfl ?_
    refine wl_v (ov_pick_f rfl rfl) rfl rfl rfl ?_
    refine wl_v (ov_assign rfl) rfl rfl rfl ?_
    refine wl_nil ?_
    refine ce_then ?_
    refine cw_ret ?_
    refine ce_results (v := .bool false) (res1 rfl (rv_t rfl)) (fun w' hw => ?_)
    exact ⟨bf (by first | assumption | omega | simp_all), (Keep.nil.ss hw).to_new⟩
set_option maxRecDepth 100000 in
theorem allIn1_c (w : World) (m : Int) (g1 : Nat) (g2 : Nat) (lo : Int) (hi : Int) (hg1 : At w (some ⟨g1, 0, none⟩) [.int .i64 (lo)]) (hg2 : At w (some ⟨g2, 0, none⟩) [.int .i64 (hi)]) : Calls Try.prog 76 #[.int .i64 (m), elp (some ⟨g1, 0, none⟩) (0), elp (some ⟨g2, 0, none⟩) (0)] w (Ret fun rv w' => rv = .bool (!decide (lo ≤ m ∧ m ≤ hi)) ∧ New w w' []) := by
  have og1 := hg1.atB
  have og2 := hg2.atB
  refine fn_enter (args := [.int .i64 (m), elp (some ⟨g1, 0, none⟩) (0), elp (some ⟨g2, 0, none⟩) (0)]) Try.func76 rfl Try.ntmps76 rfl (SS.start w) ?_
  refine cw_seq ?_
  refine cw_region ?_
  refine wl_v (ov_assign rfl) rfl rfl rfl ?_
  refine wl_nil ?_
  refine ce_then ?_
  refine cw_seq ?_
  refine cw_region ?_
  refine wl_v (ov_move rfl) rfl rfl rfl ?_
  refine wl_v (ov_load tI3 (holds_old og1) rfl rfl) rfl rfl rfl ?_
  refine wl_v (ov_load tI3 (holds_old og2) rfl rfl) rfl rfl rfl ?_
  refine wl_r (or_call (fv := []) (vs := [.int .i64 (m), .int .i64 (lo), .int .i64 (hi)]) (cs := []) en40 rfl rfl (call_v (fun w hw => in_c w m lo hi ))) rfl rfl (kt_if rfl (fun c8 => ?_) (fun c8 => ?_))
  ·
    refine wl_v (ov_not rfl) rfl rfl rfl ?_
    refine wl_v (ov_assign rfl) rfl rfl rfl ?_
    refine wl_nil ?_
    refine ce_then ?_
    refine cw_ret ?_
    refine ce_results (v := .bool false) (res1 rfl (rv_t rfl)) (fun w' hw => ?_)
    exact ⟨(by simp [c8]), (Keep.nil.ss hw).to_new⟩
  ·
    refine wl_v (ov_not rfl) rfl rfl rfl ?_
    refine wl_v (ov_assign rfl) rfl rfl rfl ?_
    refine wl_nil ?_
    refine ce_then ?_
    refine cw_ret ?_
    refine ce_results (v := .bool true) (res1 rfl (rv_t rfl)) (fun w' hw => ?_)
    exact ⟨(by simp [c8]), (Keep.nil.ss hw).to_new⟩
set_option maxRecDepth 100000 in
theorem indexFunc_c (w : World) (A : Option Addr) (n : Nat) (c : Nat) (xs : List (Int)) (Fc : FuncId) (cs : List Value) (p : Int → Bool) (hA : At w A (cells fI xs)) (eA : xs.length = n) (lA : n ≤ c) (hs : xs.length ≤ 4000000) (hen : Enters Try.prog Fc) (hf : ∀ x ∈ xs, ∀ w', Below w.heap.size w w' → Calls Try.prog Fc ([] ++ [Value.int .i64 x] ++ cs).toArray w' (Ret fun v w'' => v = .bool (p x) ∧ New w' w'' [])) : Calls Try.prog 87 #[.slice A (n) (c), .func (.func Fc) #[] cs.toArray] w (Ret fun rv w' => rv = .int .i64 (idxF p xs) ∧ New w w' []) := by
  have oA := hA.atB
  subst eA
  refine fn_enter (args := [.slice A (xs.length) (c), .func (.func Fc) #[] cs.toArray]) Try.func87 rfl Try.ntmps87 rfl (SS.start w) ?_
  refine cw_seq ?_
  refine cw_region ?_
  refine wl_v (ov_assign rfl) rfl rfl rfl ?_
  refine wl_nil ?_
  refine ce_then ?_
  refine cw_seq ?_
  refine cw_seq ?_
  refine cw_region ?_
  refine wl_v (ov_move rfl) rfl rfl rfl ?_
  refine wl_v (ov_len (sliceI_spec sI23) rfl) rfl rfl rfl ?_
  refine wl_v (ov_move rfl) rfl rfl rfl ?_
  refine wl_nil ?_
  refine ce_then ?_
  refine cw_block ?_
  refine cw_loop1 (fun (k : Nat) => [(0, .slice A (xs.length) (c)), (1, .func (.func Fc) #[] cs.toArray), (7, .int .i64 (((xs.length : Nat) : Int))), (8, .int .i64 (((k : Nat) : Int)))]) (fun (k : Nat) => []) (fun (k : Nat) => k ≤ xs.length ∧ ∀ x ∈ xs.take k, p x = false) (fun (k : Nat) => xs.length - k) 0 ⟨by omega, by simp⟩ (.cons rfl (.cons rfl (.cons rfl (.cons (congrArg (fun z => some (Value.int .i64 z)) (show 0 = ((0 : Nat) : Int) by first | omega | rfl | (simp; done))) (.nil))))) (.nil) ?_
  intro R0 k hk hR0
  obtain ⟨hk1, hk2⟩ := hk
  refine cw_seq ?_
  refine cw_region ?_
  refine wl_if (ov_lss rfl rfl) rfl rfl rfl (fun c9 => ?_) (fun c9 => ?_)
  ·
    refine wl_nil ?_
    refine ce_then ?_
    refine cw_seq ?_
    refine cw_true rfl ?_
    refine cw_skip ?_
    refine ce_then ?_
    refine cw_seq ?_
    refine cw_block ?_
    refine cw_seq ?_
    refine cw_region ?_
    refine wl_v (ov_move rfl) rfl rfl rfl ?_
    refine wl_v (ov_assign rfl) rfl rfl rfl ?_
    refine wl_nil ?_
    refine ce_then ?_
    refine cw_seq ?_
    refine cw_region ?_
    refine wl_v (ov_move rfl) rfl rfl rfl ?_
    refine wl_v (ov_move rfl) rfl rfl rfl ?_
    refine wl_v (ov_move rfl) rfl rfl rfl ?_
    refine wl_v (ov_index (k := k) (c := c) sI23 tI3 rfl rfl (some_holds (q := k * 1) (holds_old oA) (by rw [cells_length fI_len]; have hlt : k < xs.length := (by first | omega | (simp; omega)); omega)) (show k < xs.length from (by first | omega | (simp; omega)))) rfl rfl rfl ?_
    refine wl_v (ov_load tI3 (holds_old oA) rfl (get_fI (show k < xs.length from (by first | omega | (simp; omega))))) rfl rfl rfl ?_
    refine wl_r (or_call (fv := []) (vs := [.int .i64 ((xs.getD k 0))]) (cs := cs) hen rfl rfl (call_v (fun w hw => hf _ (getD_mem 0 (by omega)) w hw.below))) rfl rfl (kt_ifb rfl (fun c16 => ?_) (fun c16 => ?_))
    ·
      refine wl_nil ?_
      refine ce_then ?_
      refine cw_true rfl ?_
      refine cw_seq ?_
      refine cw_region ?_
      refine wl_v (ov_move rfl) rfl rfl rfl ?_
      refine wl_v (ov_assign rfl) rfl rfl rfl ?_
      refine wl_nil ?_
      refine ce_then ?_
      refine cw_ret ?_
      refine ce_block_ret ?_
      refine ce_then_ret ?_
      refine ce_then_ret ?_
      refine ce_block_ret ?_
      refine ce_then_ret ?_
      refine ce_results (v := .int .i64 (((k : Nat) : Int))) (res1 rfl (rv_t rfl)) (fun w' hw => ?_)
      exact ⟨(by rw [idxF_found 0 (by omega) hk2 c16]), (Keep.nil.ss hw).to_new⟩
    ·
      refine wl_nil ?_
      refine ce_then ?_
      refine cw_false rfl ?_
      refine cw_skip ?_
      refine ce_block ?_
      refine ce_then ?_
      refine cw_region ?_
      refine wl_v (ov_add (r := ((k + 1 : Nat) : Int)) rfl rfl rfl (by omega)) rfl rfl rfl ?_
      refine wl_v (ov_move rfl) rfl rfl rfl ?_
      refine wl_nil ?_
      exact fun ac_ w_ hs_ => hR0 (k + 1) ⟨by omega, all_take_step 0 (by omega) hk2 c16⟩ (by omega) ac_ w_ (hs_.weaken (.cons rfl (.cons rfl (.cons rfl (.cons rfl (.nil))))) (.nil))
  ·
    refine wl_nil ?_
    refine ce_then ?_
    refine cw_seq ?_
    refine cw_false rfl ?_
    refine cw_exit ?_
    refine ce_then_exit ?_
    refine ce_then_exit ?_
    refine ce_hit ?_
    refine ce_then ?_
    refine cw_seq ?_
    refine cw_region ?_
    refine wl_v (ov_assign rfl) rfl rfl rfl ?_
    refine wl_nil ?_
    refine ce_then ?_
    refine cw_ret ?_
    refine ce_results (v := .int .i64 (-1)) (res1 rfl (rv_t rfl)) (fun w' hw => ?_)
    exact ⟨(by rw [idxF_none (take_all (k := k) (by omega) hk2)]), (Keep.nil.ss hw).to_new⟩
set_option maxRecDepth 100000 in
theorem containsFunc_c (w : World) (A : Option Addr) (n : Nat) (c : Nat) (xs : List (Int)) (Fc : FuncId) (cs : List Value) (p : Int → Bool) (hA : At w A (cells fI xs)) (eA : xs.length = n) (lA : n ≤ c) (hs : xs.length ≤ 4000000) (hen : Enters Try.prog Fc) (hf : ∀ x ∈ xs, ∀ w', Below w.heap.size w w' → Calls Try.prog Fc ([] ++ [Value.int .i64 x] ++ cs).toArray w' (Ret fun v w'' => v = .bool (p x) ∧ New w' w'' [])) : Calls Try.prog 75 #[.slice A (n) (c), .func (.func Fc) #[] cs.toArray] w (Ret fun rv w' => rv = .bool (decide (∃ x ∈ xs, p x = true)) ∧ New w w' []) := by
  have oA := hA.atB
  subst eA
  refine fn_enter (args := [.slice A (xs.length) (c), .func (.func Fc) #[] cs.toArray]) Try.func75 rfl Try.ntmps75 rfl (SS.start w) ?_
  refine cw_seq ?_
  refine cw_region ?_
  refine wl_v (ov_assign rfl) rfl rfl rfl ?_
  refine wl_nil ?_
  refine ce_then ?_
  refine cw_seq ?_
  refine cw_region ?_
  refine wl_v (ov_move rfl) rfl rfl rfl ?_
  refine wl_v (ov_move rfl) rfl rfl rfl ?_
  refine wl_r (or_call (fv := []) (vs := [.slice A (xs.length) (c), .func (.func Fc) #[] cs.toArray]) (cs := []) en87 rfl rfl (call_v (fun w hw => indexFunc_c w A xs.length c xs Fc cs p ((holds_old oA) w hw) rfl lA (by first | assumption | omega | (simp; omega)) (by first | assumption | omega | (simp; omega)) (fun x hx w' hb => hf x hx w' (hw.below.trans (hb.mono hw.le)))))) rfl rfl (kt0 rfl ?_)
  refine wl_if (ov_geq rfl rfl) rfl rfl rfl (fun c8 => ?_) (fun c8 => ?_)
  ·
    refine wl_v (ov_assign rfl) rfl rfl rfl ?_
    refine wl_nil ?_
    refine ce_then ?_
    refine cw_ret ?_
    refine ce_results (v := .bool true) (res1 rfl (rv_t rfl)) (fun w' hw => ?_)
    exact ⟨(bt (idxF_nonneg.1 c8)), (Keep.nil.ss hw).to_new⟩
  ·
    refine wl_v (ov_assign rfl) rfl rfl rfl ?_
    refine wl_nil ?_
    refine ce_then ?_
    refine cw_ret ?_
    refine ce_results (v := .bool false) (res1 rfl (rv_t rfl)) (fun w' hw => ?_)
    exact ⟨(bf (fun h => c8 (idxF_nonneg.2 h))), (Keep.nil.ss hw).to_new⟩
set_option maxRecDepth 100000 in
theorem allIn_c (w : World) (A : Option Addr) (n : Nat) (c : Nat) (xs : List (Int)) (lo : Int) (hi : Int) (hA : At w A (cells fI xs)) (eA : xs.length = n) (lA : n ≤ c) (hs : xs.length ≤ 4000000) : Calls Try.prog 41 #[.slice A (n) (c), .int .i64 (lo), .int .i64 (hi)] w (Ret fun rv w' => rv = .bool (decide (∀ x ∈ xs, lo ≤ x ∧ x ≤ hi)) ∧ New w w' []) := by
  have oA := hA.atB
  subst eA
  refine fn_enter (args := [.slice A (xs.length) (c), .int .i64 (lo), .int .i64 (hi)]) Try.func41 rfl Try.ntmps41 rfl (SS.start w) ?_
  refine cw_seq ?_
  refine cw_region ?_
  refine wl_r (or_box rfl rfl) rfl rfl (kt1 rfl (fun g4 => ?_))
  refine wl_r (or_box rfl rfl) rfl rfl (kt1 rfl (fun g5 => ?_))
  refine wl_v (ov_assign rfl) rfl rfl rfl ?_
  refine wl_nil ?_
  refine ce_then ?_
  refine cw_seq ?_
  refine cw_region ?_
  refine wl_v (ov_move rfl) rfl rfl rfl ?_
  refine wl_v (ov_makeFunc (vs := #[elp (some ⟨g4, 0, none⟩) (0), elp (some ⟨g5, 0, none⟩) (0)]) rfl) rfl rfl rfl ?_
  refine wl_r (or_call (fv := []) (vs := [.slice A (xs.length) (c), .func (.func 76) #[] #[elp (some ⟨g4, 0, none⟩) (0), elp (some ⟨g5, 0, none⟩) (0)]]) (cs := []) en75 rfl rfl (call_v (fun w hw => containsFunc_c w A xs.length c xs 76 ([elp (some ⟨g4, 0, none⟩) (0), elp (some ⟨g5, 0, none⟩) (0)]) (fun x => !decide (lo ≤ x ∧ x ≤ hi)) ((holds_old oA) w hw) rfl lA (by first | assumption | omega | (simp; omega)) en76 (fun x hx w' hb => allIn1_c w' x g4 g5 lo hi ((holds_blk (List.Mem.tail _ (List.Mem.head _))) w' (hw.later hb)) ((holds_blk (List.Mem.head _)) w' (hw.later hb)))))) rfl rfl (kt_if rfl (fun c9 => ?_) (fun c9 => ?_))
  ·
    refine wl_v (ov_not rfl) rfl rfl rfl ?_
    refine wl_v (ov_assign rfl) rfl rfl rfl ?_
    refine wl_nil ?_
    refine ce_then ?_
    refine cw_ret ?_
    refine ce_results (v := .bool false) (res1 rfl (rv_t rfl)) (fun w' hw => ?_)
    exact ⟨(bf (by obtain ⟨x, hx, h⟩ := c9; intro h2; simp at h; have := h2 x hx; omega)), (Keep.nil.ss hw).to_new⟩
  ·
    refine wl_v (ov_not rfl) rfl rfl rfl ?_
    refine wl_v (ov_assign rfl) rfl rfl rfl ?_
    refine wl_nil ?_
    refine ce_then ?_
    refine cw_ret ?_
    refine ce_results (v := .bool true) (res1 rfl (rv_t rfl)) (fun w' hw => ?_)
    exact ⟨(bt (by intro x hx; by_cases hc : lo ≤ x ∧ x ≤ hi; exact hc; exact absurd ⟨x, hx, by simp only [decide_eq_false hc, Bool.not_false]⟩ c9)), (Keep.nil.ss hw).to_new⟩
set_option maxRecDepth 100000 in
theorem validI_c (w : World) (A : Option Addr) (n : Nat) (c : Nat) (xs : List (Int)) (hA : At w A (cells fI xs)) (eA : xs.length = n) (lA : n ≤ c) (hs : xs.length ≤ 4000000) : Calls Try.prog 55 #[.slice A (n) (c)] w (Ret fun rv w' => rv = .bool (decide (Valid xs)) ∧ New w w' []) := by
  have oA := hA.atB
  subst eA
  refine fn_enter (args := [.slice A (xs.length) (c)]) Try.func55 rfl Try.ntmps55 rfl (SS.start w) ?_
  refine cw_seq ?_
  refine cw_region ?_
  refine wl_v (ov_assign rfl) rfl rfl rfl ?_
  refine wl_nil ?_
  refine ce_then ?_
  refine cw_seq ?_
  refine cw_region ?_
  refine wl_v (ov_move rfl) rfl rfl rfl ?_
  refine wl_v (ov_len (sliceI_spec sI23) rfl) rfl rfl rfl ?_
  refine wl_if (ov_leq rfl rfl) rfl rfl rfl (fun c5 => ?_) (fun c5 => ?_)
  ·
    refine wl_v (ov_move rfl) rfl rfl rfl ?_
    refine wl_go rfl rfl ?_
    refine wl_v (ov_move rfl) rfl rfl rfl ?_
    refine wl_go rfl rfl ?_
    refine wl_v (ov_move rfl) rfl rfl rfl ?_
    refine wl_go rfl rfl ?_
    refine wl_v (ov_len (sliceI_spec sI23) rfl) rfl rfl rfl ?_
    refine wl_go rfl rfl ?_
    refine wl_v (ov_sub (r := ((xs.length : Nat) : Int) - 1) rfl rfl rfl (by omega)) rfl rfl rfl ?_
    refine wl_go rfl rfl ?_
    refine wl_r (or_call (fv := []) (vs := [.slice A (xs.length) (c), .int .i64 (0), .int .i64 (((xs.length : Nat) : Int) - 1)]) (cs := []) en41 rfl rfl (call_v (fun w hw => allIn_c w A xs.length c xs 0 (((xs.length : Nat) : Int) - 1) ((holds_old oA) w hw) rfl lA (by first | assumption | omega | (simp; omega))))) rfl rfl (kt_if rfl (fun c11 => ?_) (fun c11 => ?_))
    ·
      refine wl_v (ov_pick_t rfl rfl) rfl rfl rfl ?_
      refine wl_v (ov_assign rfl) rfl rfl rfl ?_
      refine wl_nil ?_
      refine ce_then ?_
      refine cw_ret ?_
      refine ce_results (v := .bool true) (res1 rfl (rv_t rfl)) (fun w' hw => ?_)
      exact ⟨(bt ⟨by omega, c11⟩), (Keep.nil.ss hw).to_new⟩
    ·
      refine wl_v (ov_pick_t rfl rfl) rfl rfl rfl ?_
      refine wl_v (ov_assign rfl) rfl rfl rfl ?_
      refine wl_nil ?_
      refine ce_then ?_
      refine cw_ret ?_
      refine ce_results (v := .bool false) (res1 rfl (rv_t rfl)) (fun w' hw => ?_)
      exact ⟨(bf (fun h => c11 h.2)), (Keep.nil.ss hw).to_new⟩
  ·
    refine wl_v (ov_move rfl) rfl rfl rfl ?_
    refine wl_not rfl rfl rfl rfl rfl rfl ?_
    refine wl_not rfl rfl rfl rfl rfl rfl ?_
    refine wl_not rfl rfl rfl rfl rfl rfl ?_
    refine wl_not rfl rfl rfl rfl rfl rfl ?_
    refine wl_not rfl rfl rfl rfl rfl rfl ?_
    refine wl_v (ov_pick_f rfl rfl) rfl rfl rfl ?_
    refine wl_v (ov_assign rfl) rfl rfl rfl ?_
    refine wl_nil ?_
    refine ce_then ?_
    refine cw_ret ?_
    refine ce_results (v := .bool false) (res1 rfl (rv_t rfl)) (fun w' hw => ?_)
    exact ⟨(bf (fun h => c5 (by have := h.1; omega))), (Keep.nil.ss hw).to_new⟩
set_option maxRecDepth 100000 in
theorem clone_c (w : World) (A : Option Addr) (n : Nat) (c : Nat) (xs : List (Int)) (hA : At w A (cells fI xs)) (eA : xs.length = n) (lA : n ≤ c) (hs : xs.length ≤ 4000000) : Calls Try.prog 83 #[.slice A (n) (c)] w (Ret fun rv w' => ∃ A2 c2, (n ≤ c2) ∧ rv = .slice A2 (n) (c2) ∧ New w w' [row 3 1 A2 (n) (c2) (cells fI xs)]) := by
  have oA := hA.atB
  subst eA
  refine fn_enter (args := [.slice A (xs.length) (c)]) Try.func83 rfl Try.ntmps83 rfl (SS.start w) ?_
  refine cw_seq ?_
  refine cw_region ?_
  refine wl_v (ov_assign rfl) rfl rfl rfl ?_
  refine wl_nil ?_
  refine ce_then ?_
  refine cw_seq ?_
  refine cw_seq ?_
  refine cw_region ?_
  refine wl_v (ov_move rfl) rfl rfl rfl ?_
  refine wl_if (ov_eqlnil sI23 rfl rfl) rfl rfl rfl (fun c4 => ?_) (fun c4 => ?_)
  ·
    subst c4; have hx0 := at_none fI_len (by decide) hA; subst hx0
    refine ct_none fI 3 1 ?_
    refine wl_nil ?_
    refine ce_then ?_
    refine cw_true rfl ?_
    refine cw_seq ?_
    refine cw_region ?_
    refine wl_v (ov_assign rfl) rfl rfl rfl ?_
    refine wl_nil ?_
    refine ce_then ?_
    refine cw_ret ?_
    refine ce_then_ret ?_
    refine ce_results (v := .slice none (0) (0)) (res1 rfl (rv_t rfl)) (fun w' hw => ?_)
    exact ⟨none, 0, (Nat.le_refl _), rfl, ((.cons (.head) (.nil) : Keep _ _).ss hw).to_new⟩
  ·
    refine wl_nil ?_
    refine ce_then ?_
    refine cw_false rfl ?_
    refine cw_skip ?_
    refine ce_then ?_
    refine cw_seq ?_
    refine cw_region ?_
    refine wl_r (or_buildSlice (e := 3) (size := 1) (is := []) (vs := []) (cs := cells fI ([])) rfl rfl rfl (by decide) (fun _ => by kernel_rfl)) rfl rfl (kt1 rfl (fun g5 => ?_))
    refine wl_v (ov_move rfl) rfl rfl rfl ?_
    refine wl_r (or_append (c2 := c) sI23 tI3 rfl (by decide) rfl rfl (.head) (holds_old oA) (by rw [cells_length fI_len]; try simp) (one_cells fI_one _) cells_append (by omega) (by omega)) rfl rfl (kt2p rfl (fun A7 c7 h7 => ?_))
    refine wl_v (ov_assign rfl) rfl rfl rfl ?_
    refine wl_nil ?_
    refine ce_then ?_
    refine cw_ret ?_
    refine ce_results (v := .slice A7 (0 + xs.length) (c7)) (res1 rfl (rv_t rfl)) (fun w' hw => ?_)
    exact ⟨A7, c7, (by omega), (by simp), ((.consE (show row 3 1 A7 (0 + xs.length) (c7) (cells fI (([]) ++ xs)) = row 3 1 A7 (xs.length) (c7) (cells fI xs) by simp) (.head) (.nil) : Keep _ _).ss hw).to_new⟩
set_option maxRecDepth 100000 in
theorem clip_c (w : World) (A : Option Addr) (n : Nat) (c : Nat) (xs : List (Int)) (hA : At w A (cells fI xs)) (eA : xs.length = n) (lA : n ≤ c) : Calls Try.prog 82 #[.slice A (n) (c)] w (Ret fun rv w' => rv = .slice A (n) (n) ∧ New w w' []) := by
  have oA := hA.atB
  subst eA
  refine fn_enter (args := [.slice A (xs.length) (c)]) Try.func82 rfl Try.ntmps82 rfl (SS.start w) ?_
  refine cw_seq ?_
  refine cw_region ?_
  refine wl_v (ov_assign rfl) rfl rfl rfl ?_
  refine wl_nil ?_
  refine ce_then ?_
  refine cw_seq ?_
  refine cw_region ?_
  refine wl_v (ov_move rfl) rfl rfl rfl ?_
  refine wl_v (ov_move rfl) rfl rfl rfl ?_
  refine wl_v (ov_len (sliceI_spec sI23) rfl) rfl rfl rfl ?_
  refine wl_v (ov_move rfl) rfl rfl rfl ?_
  refine wl_v (ov_len (sliceI_spec sI23) rfl) rfl rfl rfl ?_
  refine wl_v (ov_slice_hm (h := xs.length) (mx := xs.length) sI23 tI3 rfl rfl rfl (Nat.le_refl _) lA) rfl rfl rfl ?_
  refine wl_v (ov_assign rfl) rfl rfl rfl ?_
  refine wl_nil ?_
  refine ce_then ?_
  refine cw_ret ?_
  refine ce_results (v := .slice A (xs.length) (xs.length)) (res1 rfl (rv_t rfl)) (fun w' hw => ?_)
  exact ⟨rfl, (Keep.nil.ss hw).to_new⟩
set_option maxRecDepth 100000 in
theorem cloneC_c (w : World) (A : Option Addr) (n : Nat) (c : Nat) (xs : List (Int)) (hA : At w A (cells fI xs)) (eA : xs.length = n) (lA : n ≤ c) (hs : xs.length ≤ 4000000) : Calls Try.prog 56 #[.slice A (n) (c)] w (Ret fun rv w' => ∃ A2 c2, (n ≤ c2) ∧ rv = .slice A2 (n) (n) ∧ New w w' [row 3 1 A2 (n) (c2) (cells fI xs)]) := by
  have oA := hA.atB
  subst eA
  refine fn_enter (args := [.slice A (xs.length) (c)]) Try.func56 rfl Try.ntmps56 rfl (SS.start w) ?_
  refine cw_seq ?_
  refine cw_region ?_
  refine wl_v (ov_assign rfl) rfl rfl rfl ?_
  refine wl_nil ?_
  refine ce_then ?_
  refine cw_seq ?_
  refine cw_region ?_
  refine wl_v (ov_move rfl) rfl rfl rfl ?_
  refine wl_r (or_call (fv := []) (vs := [.slice A (xs.length) (c)]) (cs := []) en83 rfl rfl (call_x2 (fun w hw => clone_c w A xs.length c xs ((holds_old oA) w hw) rfl lA (by first | assumption | omega | (simp; omega))))) rfl rfl (kt2p rfl (fun A2_4 c2_4 h_4 => ?_))
  refine wl_r (or_call (fv := []) (vs := [.slice A2_4 (xs.length) (c2_4)]) (cs := []) en82 rfl rfl (call_v (fun w hw => clip_c w A2_4 xs.length c2_4 xs ((holds_row (List.Mem.head _)) w hw) rfl h_4))) rfl rfl (kt0 rfl ?_)
  refine wl_v (ov_assign rfl) rfl rfl rfl ?_
  refine wl_nil ?_
  refine ce_then ?_
  refine cw_ret ?_
  refine ce_results (v := .slice A2_4 (xs.length) (xs.length)) (res1 rfl (rv_t rfl)) (fun w' hw => ?_)
  exact ⟨A2_4, c2_4, h_4, rfl, ((.cons (.head) (.nil) : Keep _ _).ss hw).to_new⟩
set_option maxRecDepth 100000 in
theorem insertionSort_c (w : World) (w0 : World) (Bd : Nat) (F : List Ent) (A : Option Addr) (n : Nat) (c : Nat) (cv : Nat) (xs : List (Int)) (Fc : FuncId) (cs : List Value) (cmp : Int → Int → Int) (eA : xs.length = n) (lA : n ≤ cv) (hs : n ≤ 12) (hen : Enters Try.prog Fc) (hcmp : ∀ x ∈ xs, ∀ y ∈ xs, ∀ ys' w', SS w0 Bd ((row 3 1 A n c (cells fI ys')) :: F) w' → Calls Try.prog Fc ([] ++ [Value.int .i64 x, Value.int .i64 y] ++ cs).toArray w' (Ret fun v w'' => v = .int .i64 (cmp x y) ∧ New w' w'' [])) (hss : SS w0 Bd ((row 3 1 A (n) (c) (cells fI xs)) :: F) w) : Calls Try.prog 102 #[.slice A (n) (cv), .int .i64 (0), .int .i64 (((n : Nat) : Int)), .func (.func Fc) #[] cs.toArray] w (Ret fun rv w' => rv = undef ∧ SS w0 Bd ((row 3 1 A (n) (c) (cells fI (isort 0 (ltOf cmp) xs))) :: F) w') := by
  subst eA
  refine fn_enter (args := [.slice A (xs.length) (cv), .int .i64 (0), .int .i64 (((xs.length : Nat) : Int)), .func (.func Fc) #[] cs.toArray]) Try.func102 rfl Try.ntmps102 rfl hss ?_
  refine cw_seq ?_
  refine cw_region ?_
  refine wl_v (ov_move rfl) rfl rfl rfl ?_
  refine wl_v (ov_add (r := 1) rfl rfl (by decide) (by omega)) rfl rfl rfl ?_
  refine wl_v (ov_assign rfl) rfl rfl rfl ?_
  refine wl_nil ?_
  refine ce_then ?_
  refine cw_block ?_
  refine cw_loop1 (fun (k : Nat) => [(0, .slice A (xs.length) (cv)), (1, .int .i64 (0)), (2, .int .i64 (((xs.length : Nat) : Int))), (3, .func (.func Fc) #[] cs.toArray), (8, .int .i64 (((k : Nat) : Int)))]) (fun (k : Nat) => (row 3 1 A (xs.length) (c) (cells fI (sortTo 0 (ltOf cmp) xs k))) :: F) (fun (k : Nat) => 1 ≤ k ∧ (k ≤ xs.length ∨ k = 1)) (fun (k : Nat) => xs.length - k) 1 ⟨by omega, .inr rfl⟩ (.cons rfl (.cons rfl (.cons rfl (.cons rfl (.cons (congrArg (fun z => some (Value.int .i64 z)) (show 1 = ((1 : Nat) : Int) by first | omega | rfl | (simp; done))) (.nil)))))) (.consE (show row 3 1 A (xs.length) (c) (cells fI xs) = row 3 1 A (xs.length) (c) (cells fI (sortTo 0 (ltOf cmp) xs 1)) by rfl) (.head) (.refl)) ?_
  intro R0 k hk hR0
  obtain ⟨hk1, hk2⟩ := hk
  refine cw_seq ?_
  refine cw_seq ?_
  refine cw_region ?_
  refine wl_v (ov_move rfl) rfl rfl rfl ?_
  refine wl_v (ov_move rfl) rfl rfl rfl ?_
  refine wl_if (ov_lss rfl rfl) rfl rfl rfl (fun c14 => ?_) (fun c14 => ?_)
  ·
    refine wl_nil ?_
    refine ce_then ?_
    refine cw_true rfl ?_
    refine cw_skip ?_
    refine ce_then ?_
    refine cw_seq ?_
    refine cw_block ?_
    refine cw_seq ?_
    refine cw_region ?_
    refine wl_v (ov_move rfl) rfl rfl rfl ?_
    refine wl_v (ov_assign rfl) rfl rfl rfl ?_
    refine wl_nil ?_
    refine ce_then ?_
    refine cw_block ?_
    refine cw_loop2 (fun (j : Nat) (ys : List Int) => [(0, .slice A (xs.length) (cv)), (1, .int .i64 (0)), (2, .int .i64 (((xs.length : Nat) : Int))), (3, .func (.func Fc) #[] cs.toArray), (8, .int .i64 (((k : Nat) : Int))), (9, .int .i64 (((j : Nat) : Int)))]) (fun (j : Nat) (ys : List Int) => (row 3 1 A (xs.length) (c) (cells fI ys)) :: F) (fun (j : Nat) (ys : List Int) => j < xs.length ∧ ys.length = xs.length ∧ sink 0 (ltOf cmp) j ys = sink 0 (ltOf cmp) k (sortTo 0 (ltOf cmp) xs k) ∧ ∀ x ∈ ys, x ∈ xs) (fun (j : Nat) (ys : List Int) => j) k (sortTo 0 (ltOf cmp) xs k) ⟨by omega, sortTo_length _ _ _ _, rfl, sortTo_mem (by omega)⟩ (.cons rfl (.cons rfl (.cons rfl (.cons rfl (.cons rfl (.cons rfl (.nil))))))) (.cons (.head) (.refl)) ?_
    intro R1 j ys hk1 hR1
    obtain ⟨hk11, hk12, hk13, hm⟩ := hk1
    refine cw_seq ?_
    refine cw_seq ?_
    refine cw_draw mixO [] (.cons (.head) (.refl)) rfl ?_
    refine wg_takep (i := 0) rfl (ov_move rfl) rfl rfl rfl (by kernel_rfl) (by kernel_rfl) (by kernel_rfl) rfl ?_
    refine wg_takep (i := 1) rfl (ov_move rfl) rfl rfl rfl (by kernel_rfl) (by kernel_rfl) (by kernel_rfl) rfl ?_
    refine wg_takep_if (i := 2) rfl (ov_gtr rfl rfl) rfl rfl rfl (by kernel_rfl) (by kernel_rfl) (by kernel_rfl) rfl (fun c20 => ?_) (fun c20 => ?_)
    ·
      have hj : 0 < j := by omega
      refine wg_takep (i := 3) rfl (ov_move rfl) rfl rfl rfl (by kernel_rfl) (by kernel_rfl) (by kernel_rfl) rfl ?_
      refine wg_take_go (i := 4) rfl rfl rfl (ov_move rfl) rfl (by kernel_rfl) (by kernel_rfl) (by kernel_rfl) (by kernel_rfl) ?_
      refine wg_take_go (i := 5) rfl rfl rfl (ov_move rfl) rfl (by kernel_rfl) (by kernel_rfl) (by kernel_rfl) (by kernel_rfl) ?_
      refine wg_take_go (i := 6) rfl rfl rfl (ov_move rfl) rfl (by kernel_rfl) (by kernel_rfl) (by kernel_rfl) (by kernel_rfl) ?_
      refine wg_take_go (i := 7) rfl rfl rfl (ov_index (k := j) (c := cv) sI23 tI3 rfl rfl (some_holds (q := j * 1) (holds_row (List.Mem.head _)) (by rw [cells_length fI_len]; have hlt : j < ys.length := (by first | omega | (simp; omega)); omega)) (show j < xs.length from (by first | omega | (simp; omega)))) rfl (by kernel_rfl) (by kernel_rfl) (by kernel_rfl) (by kernel_rfl) ?_
      refine wg_take_go (i := 8) rfl rfl rfl (ov_load tI3 (holds_row (List.Mem.head _)) rfl (get_fI (show j < ys.length from (by first | omega | (simp; omega))))) rfl (by kernel_rfl) (by kernel_rfl) (by kernel_rfl) (by kernel_rfl) ?_
      refine wg_take_go (i := 9) rfl rfl rfl (ov_move rfl) rfl (by kernel_rfl) (by kernel_rfl) (by kernel_rfl) (by kernel_rfl) ?_
      refine wg_take_go (i := 10) rfl rfl rfl (ov_move rfl) rfl (by kernel_rfl) (by kernel_rfl) (by kernel_rfl) (by kernel_rfl) ?_
      refine wg_take_go (i := 11) rfl rfl rfl (ov_sub (r := ((j - 1 : Nat) : Int)) rfl rfl (by omega) (by omega)) rfl (by kernel_rfl) (by kernel_rfl) (by kernel_rfl) (by kernel_rfl) ?_
      refine wg_take_go (i := 12) rfl rfl rfl (ov_index (k := j - 1) (c := cv) sI23 tI3 rfl rfl (some_holds (q := (j - 1) * 1) (holds_row (List.Mem.head _)) (by rw [cells_length fI_len]; have hlt : j - 1 < ys.length := (by first | omega | (simp; omega)); omega)) (show j - 1 < xs.length from (by first | omega | (simp; omega)))) rfl (by kernel_rfl) (by kernel_rfl) (by kernel_rfl) (by kernel_rfl) ?_
      refine wg_take_go (i := 13) rfl rfl rfl (ov_load tI3 (holds_row (List.Mem.head _)) rfl (get_fI (show j - 1 < ys.length from (by first | omega | (simp; omega))))) rfl (by kernel_rfl) (by kernel_rfl) (by kernel_rfl) (by kernel_rfl) ?_
      refine wg_one (i := 14) (by kernel_rfl) ?_
      refine go_rg rfl rfl rfl rfl (or_call (fv := []) (vs := [.int .i64 ((ys.getD j 0)), .int .i64 ((ys.getD (j - 1) 0))]) (cs := cs) hen rfl rfl (call_v (fun w hw => hcmp _ (hm _ (getD_mem 0 (by omega))) _ (hm _ (getD_mem 0 (by omega))) _ w ((.cons (.head) (.refl) : Keep _ _).ss hw)))) (kt0 rfl ?_)
      refine gk (.cons (.head) (.refl)) ?_
      refine wg_take_go_if (i := 15) rfl rfl rfl (ov_lss rfl rfl) rfl (by kernel_rfl) (by kernel_rfl) (by kernel_rfl) (by kernel_rfl) (fun c33 => ?_) (fun c33 => ?_)
      ·
        refine wg_takep (i := 16) rfl (ov_pick_t rfl rfl) rfl rfl rfl (by kernel_rfl) (by kernel_rfl) (by kernel_rfl) rfl ?_
        refine wg_done (by kernel_rfl) ?_
        refine ce_then ?_
        refine cw_true rfl ?_
        refine cw_skip ?_
        refine ce_then ?_
        refine cw_seq ?_
        refine cw_block ?_
        refine cw_draw mixO [15, 16, 17] (.cons (.head) (.refl)) rfl ?_
        refine wg_takep (i := 0) rfl (ov_move rfl) rfl rfl rfl (by kernel_rfl) (by kernel_rfl) (by kernel_rfl) rfl ?_
        refine wg_takep (i := 1) rfl (ov_move rfl) rfl rfl rfl (by kernel_rfl) (by kernel_rfl) (by kernel_rfl) rfl ?_
        refine wg_takep (i := 2) rfl (ov_move rfl) rfl rfl rfl (by kernel_rfl) (by kernel_rfl) (by kernel_rfl) rfl ?_
        refine wg_takep (i := 3) rfl (ov_move rfl) rfl rfl rfl (by kernel_rfl) (by kernel_rfl) (by kernel_rfl) rfl ?_
        refine wg_takep (i := 4) rfl (ov_sub (r := ((j - 1 : Nat) : Int)) rfl rfl (by omega) (by omega)) rfl rfl rfl (by kernel_rfl) (by kernel_rfl) (by kernel_rfl) rfl ?_
        refine wg_takep (i := 5) rfl (ov_move rfl) rfl rfl rfl (by kernel_rfl) (by kernel_rfl) (by kernel_rfl) rfl ?_
        refine wg_takep (i := 6) rfl (ov_move rfl) rfl rfl rfl (by kernel_rfl) (by kernel_rfl) (by kernel_rfl) rfl ?_
        refine wg_takep (i := 7) rfl (ov_sub (r := ((j - 1 : Nat) : Int)) rfl rfl (by omega) (by omega)) rfl rfl rfl (by kernel_rfl) (by kernel_rfl) (by kernel_rfl) rfl ?_
        refine wg_take (i := 8) rfl (ov_index (k := j - 1) (c := cv) sI23 tI3 rfl rfl (some_holds (q := (j - 1) * 1) (holds_row (List.Mem.head _)) (by rw [cells_length fI_len]; have hlt : j - 1 < ys.length := (by first | omega | (simp; omega)); omega)) (show j - 1 < xs.length from (by first | omega | (simp; omega)))) rfl rfl rfl (by kernel_rfl) (by kernel_rfl) (by kernel_rfl) (by kernel_rfl) ?_
        refine wg_take (i := 9) rfl (ov_load tI3 (holds_row (List.Mem.head _)) rfl (get_fI (show j - 1 < ys.length from (by first | omega | (simp; omega))))) rfl rfl rfl (by kernel_rfl) (by kernel_rfl) (by kernel_rfl) (by kernel_rfl) ?_
        refine wg_takep (i := 10) rfl (ov_move rfl) rfl rfl rfl (by kernel_rfl) (by kernel_rfl) (by kernel_rfl) rfl ?_
        refine wg_takep (i := 11) rfl (ov_move rfl) rfl rfl rfl (by kernel_rfl) (by kernel_rfl) (by kernel_rfl) rfl ?_
        refine stg_some (some_holds (q := j * 1) (holds_row (List.Mem.head _)) (by rw [cells_length fI_len]; have hlt : j < ys.length := (by first | omega | (simp; omega)); omega)) (fun hso49 => ?_)
        refine wg_takep (i := 12) rfl (ov_index (k := j) (c := cv) sI23 tI3 rfl rfl (fun _ _ => hso49) (show j < xs.length from (by first | omega | (simp; omega)))) rfl rfl rfl (by kernel_rfl) (by kernel_rfl) (by kernel_rfl) rfl ?_
        refine wg_take (i := 13) rfl (ov_load tI3 (holds_row (List.Mem.head _)) rfl (get_fI (show j < ys.length from (by first | omega | (simp; omega))))) rfl rfl rfl (by kernel_rfl) (by kernel_rfl) (by kernel_rfl) (by kernel_rfl) ?_
        refine wg_take (i := 14) rfl (ov_index (k := j) (c := cv) sI23 tI3 rfl rfl (some_holds (q := j * 1) (holds_row (List.Mem.head _)) (by rw [cells_length fI_len]; have hlt : j < ys.length := (by first | omega | (simp; omega)); omega)) (show j < xs.length from (by first | omega | (simp; omega)))) rfl rfl rfl (by kernel_rfl) (by kernel_rfl) (by kernel_rfl) (by kernel_rfl) ?_
        refine wg_one (i := 15) (by kernel_rfl) ?_
        refine go_late0 rfl rfl rfl rfl (or_store_row (vs := [.int .i64 ((ys.getD (j - 1) 0))]) (cs' := cells fI (ys.set j (ys.getD (j - 1) 0))) (.head) tI3 rfl rfl rfl rfl (by rw [cells_length fI_len]; have hlt := (show j < ys.length from (by first | omega | (simp; omega))); simp only [List.length_cons, List.length_nil]; omega) (by simp) (cells_splice fI_len (show j < ys.length from (by first | omega | (simp; omega))) (ys.getD (j - 1) 0))) (kn0 ?_)
        refine wa_r (i := 16) (by kernel_rfl) rfl rfl rfl (OpV.opR (ov_index (k := j - 1) (c := cv) sI23 tI3 rfl rfl (some_holds (q := (j - 1) * 1) (holds_row (List.Mem.head _)) (by rw [cells_length fI_len]; have hlt : j - 1 < (ys.set j (ys.getD (j - 1) 0)).length := (by first | omega | (simp; omega)); omega)) (show j - 1 < xs.length from (by first | omega | (simp; omega))))) (kt0 rfl ?_)
        refine wa_r0 (i := 17) (by kernel_rfl) rfl rfl rfl (or_store_row (vs := [.int .i64 ((ys.getD j 0))]) (cs' := cells fI ((ys.set j (ys.getD (j - 1) 0)).set (j - 1) (ys.getD j 0))) (.head) tI3 rfl rfl rfl rfl (by rw [cells_length fI_len]; have hlt := (show j - 1 < (ys.set j (ys.getD (j - 1) 0)).length from (by first | omega | (simp; omega))); simp only [List.length_cons, List.length_nil]; omega) (by simp) (cells_splice fI_len (show j - 1 < (ys.set j (ys.getD (j - 1) 0)).length from (by first | omega | (simp; omega))) (ys.getD j 0))) (kn0 ?_)
        refine wa_done (by kernel_rfl) ?_
        refine ce_block ?_
        refine ce_then ?_
        refine cw_region ?_
        refine wl_v (ov_move rfl) rfl rfl rfl ?_
        refine wl_v (ov_sub (r := ((j - 1 : Nat) : Int)) rfl rfl (by omega) (by omega)) rfl rfl rfl ?_
        refine wl_v (ov_assign rfl) rfl rfl rfl ?_
        refine wl_nil ?_
        exact fun ac_ w_ hs_ => hR1 (j - 1) (swp 0 ys j) ⟨by omega, by rw [swp_length]; exact hk12, by rw [← hk13]; exact (sink_step hj c33).symm, fun x hx => hm x (swp_mem (by omega) hx)⟩ (by omega) ac_ w_ (hs_.weaken (.cons rfl (.cons rfl (.cons rfl (.cons rfl (.cons rfl (.cons rfl (.nil))))))) (.cons (.head) (.refl)))
      ·
        have hend : sink 0 (ltOf cmp) j ys = ys := sink_stop c33
        refine wg_takep (i := 16) rfl (ov_pick_t rfl rfl) rfl rfl rfl (by kernel_rfl) (by kernel_rfl) (by kernel_rfl) rfl ?_
        refine wg_done (by kernel_rfl) ?_
        refine ce_then ?_
        refine cw_false rfl ?_
        refine cw_exit ?_
        refine ce_then_exit ?_
        refine ce_then_exit ?_
        refine ce_hit ?_
        refine ce_block ?_
        refine ce_then ?_
        refine cw_region ?_
        refine wl_v (ov_move rfl) rfl rfl rfl ?_
        refine wl_v (ov_add (r := ((k + 1 : Nat) : Int)) rfl rfl rfl (by omega)) rfl rfl rfl ?_
        refine wl_v (ov_assign rfl) rfl rfl rfl ?_
        refine wl_nil ?_
        exact fun ac_ w_ hs_ => hR0 (k + 1) (by refine ⟨?_, ?_⟩ <;> omega) (by omega) ac_ w_ (hs_.weaken (.cons rfl (.cons rfl (.cons rfl (.cons rfl (.cons rfl (.nil)))))) (.consE (show row 3 1 A (xs.length) (c) (cells fI ys) = row 3 1 A (xs.length) (c) (cells fI (sortTo 0 (ltOf cmp) xs (k + 1))) by rw [sortTo, ← hk13, hend]) (.head) (.refl)))
    ·
      have hend : sink 0 (ltOf cmp) j ys = ys := sink_zero (by omega)
      refine wg_takep (i := 3) rfl (ov_move rfl) rfl rfl rfl (by kernel_rfl) (by kernel_rfl) (by kernel_rfl) rfl ?_
      refine wg_take_not (i := 4) rfl rfl rfl rfl rfl (by kernel_rfl) (by kernel_rfl) (by kernel_rfl) (by kernel_rfl) ?_
      refine wg_take_not (i := 5) rfl rfl rfl rfl rfl (by kernel_rfl) (by kernel_rfl) (by kernel_rfl) (by kernel_rfl) ?_
      refine wg_take_not (i := 6) rfl rfl rfl rfl rfl (by kernel_rfl) (by kernel_rfl) (by kernel_rfl) (by kernel_rfl) ?_
      refine wg_take_not (i := 7) rfl rfl rfl rfl rfl (by kernel_rfl) (by kernel_rfl) (by kernel_rfl) (by kernel_rfl) ?_
      refine wg_take_not (i := 8) rfl rfl rfl rfl rfl (by kernel_rfl) (by kernel_rfl) (by kernel_rfl) (by kernel_rfl) ?_
      refine wg_take_not (i := 9) rfl rfl rfl rfl rfl (by kernel_rfl) (by kernel_rfl) (by kernel_rfl) (by kernel_rfl) ?_
      refine wg_take_not (i := 10) rfl rfl rfl rfl rfl (by kernel_rfl) (by kernel_rfl) (by kernel_rfl) (by kernel_rfl) ?_
      refine wg_take_not (i := 11) rfl rfl rfl rfl rfl (by kernel_rfl) (by kernel_rfl) (by kernel_rfl) (by kernel_rfl) ?_
      refine wg_take_not (i := 12) rfl rfl rfl rfl rfl (by kernel_rfl) (by kernel_rfl) (by kernel_rfl) (by kernel_rfl) ?_
      refine wg_take_not (i := 13) rfl rfl rfl rfl rfl (by kernel_rfl) (by kernel_rfl) (by kernel_rfl) (by kernel_rfl) ?_
      refine wg_take_not (i := 14) rfl rfl rfl rfl rfl (by kernel_rfl) (by kernel_rfl) (by kernel_rfl) (by kernel_rfl) ?_
      refine wg_take_not (i := 15) rfl rfl rfl rfl rfl (by kernel_rfl) (by kernel_rfl) (by kernel_rfl) (by kernel_rfl) ?_
      refine wg_takep (i := 16) rfl (ov_pick_f rfl rfl) rfl rfl rfl (by kernel_rfl) (by kernel_rfl) (by kernel_rfl) rfl ?_
      refine wg_done (by kernel_rfl) ?_
      refine ce_then ?_
      refine cw_false rfl ?_
      refine cw_exit ?_
      refine ce_then_exit ?_
      refine ce_then_exit ?_
      refine ce_hit ?_
      refine ce_block ?_
      refine ce_then ?_
      refine cw_region ?_
      refine wl_v (ov_move rfl) rfl rfl rfl ?_
      refine wl_v (ov_add (r := ((k + 1 : Nat) : Int)) rfl rfl rfl (by omega)) rfl rfl rfl ?_
      refine wl_v (ov_assign rfl) rfl rfl rfl ?_
      refine wl_nil ?_
      exact fun ac_ w_ hs_ => hR0 (k + 1) (by refine ⟨?_, ?_⟩ <;> omega) (by omega) ac_ w_ (hs_.weaken (.cons rfl (.cons rfl (.cons rfl (.cons rfl (.cons rfl (.nil)))))) (.consE (show row 3 1 A (xs.length) (c) (cells fI ys) = row 3 1 A (xs.length) (c) (cells fI (sortTo 0 (ltOf cmp) xs (k + 1))) by rw [sortTo, ← hk13, hend]) (.head) (.refl)))
  ·
    refine wl_nil ?_
    refine ce_then ?_
    refine cw_false rfl ?_
    refine cw_exit ?_
    refine ce_then_exit ?_
    refine ce_then_exit ?_
    refine ce_hit ?_
    refine ce_results_n (v := .tuple #[]) (res0 rfl) (fun w' hw => ?_)
    exact ⟨rfl, ((.consE (show row 3 1 A (xs.length) (c) (cells fI (sortTo 0 (ltOf cmp) xs k)) = row 3 1 A (xs.length) (c) (cells fI (isort 0 (ltOf cmp) xs)) by rw [sort_end hk1 hk2 (by omega)]) (.head) (.refl) : Keep _ _).ss hw)⟩
set_option maxRecDepth 100000 in
theorem stableCmp_c (w : World) (w0 : World) (Bd : Nat) (F : List Ent) (A : Option Addr) (n : Nat) (c : Nat) (cv : Nat) (xs : List (Int)) (Fc : FuncId) (cs : List Value) (cmp : Int → Int → Int) (eA : xs.length = n) (lA : n ≤ cv) (hs : n ≤ 12) (hen : Enters Try.prog Fc) (hcmp : ∀ x ∈ xs, ∀ y ∈ xs, ∀ ys' w', SS w0 Bd ((row 3 1 A n c (cells fI ys')) :: F) w' → Calls Try.prog Fc ([] ++ [Value.int .i64 x, Value.int .i64 y] ++ cs).toArray w' (Ret fun v w'' => v = .int .i64 (cmp x y) ∧ New w' w'' [])) (hss : SS w0 Bd ((row 3 1 A (n) (c) (cells fI xs)) :: F) w) : Calls Try.prog 90 #[.slice A (n) (cv), .int .i64 (((n : Nat) : Int)), .func (.func Fc) #[] cs.toArray] w (Ret fun rv w' => rv = undef ∧ SS w0 Bd ((row 3 1 A (n) (c) (cells fI (isort 0 (ltOf cmp) xs))) :: F) w') := by
  subst eA
  refine fn_enter (args := [.slice A (xs.length) (cv), .int .i64 (((xs.length : Nat) : Int)), .func (.func Fc) #[] cs.toArray]) Try.func90 rfl Try.ntmps90 rfl hss ?_
  refine cw_seq ?_
  refine cw_region ?_
  refine wl_v (ov_assign rfl) rfl rfl rfl ?_
  refine wl_nil ?_
  refine ce_then ?_
  refine cw_seq ?_
  refine cw_region ?_
  refine wl_v (ov_move rfl) rfl rfl rfl ?_
  refine wl_v (ov_assign rfl) rfl rfl rfl ?_
  refine wl_v (ov_assign rfl) rfl rfl rfl ?_
  refine wl_nil ?_
  refine ce_then ?_
  refine cw_seq ?_
  refine cw_block ?_
  refine cw_loop1 (fun (u : Unit) => [(0, .slice A (xs.length) (cv)), (1, .int .i64 (((xs.length : Nat) : Int))), (2, .func (.func Fc) #[] cs.toArray), (6, .int .i64 (20)), (7, .int .i64 (0)), (8, .int .i64 (20))]) (fun (u : Unit) => (row 3 1 A (xs.length) (c) (cells fI xs)) :: F) (fun (u : Unit) => True) (fun (u : Unit) => 0) () (by trivial) (.cons rfl (.cons rfl (.cons rfl (.cons rfl (.cons rfl (.cons rfl (.nil))))))) (.cons (.head) (.refl)) ?_
  intro R0 u hk hR0
  refine cw_seq ?_
  refine cw_seq ?_
  refine cw_region ?_
  refine wl_v (ov_move rfl) rfl rfl rfl ?_
  refine wl_v (ov_move rfl) rfl rfl rfl ?_
  refine wl_if (ov_leq rfl rfl) rfl rfl rfl (fun c13 => ?_) (fun c13 => ?_)
  ·
    exfalso; omega
  ·
    refine wl_nil ?_
    refine ce_then ?_
    refine cw_false rfl ?_
    refine cw_exit ?_
    refine ce_then_exit ?_
    refine ce_then_exit ?_
    refine ce_hit ?_
    refine ce_then ?_
    refine cw_seq ?_
    refine cw_region ?_
    refine wl_v (ov_move rfl) rfl rfl rfl ?_
    refine wl_v (ov_move rfl) rfl rfl rfl ?_
    refine wl_v (ov_move rfl) rfl rfl rfl ?_
    refine wl_v (ov_move rfl) rfl rfl rfl ?_
    refine wl_r (or_call (fv := []) (vs := [.slice A (xs.length) (cv), .int .i64 (0), .int .i64 (((xs.length : Nat) : Int)), .func (.func Fc) #[] cs.toArray]) (cs := []) en102 rfl rfl (call_m (.head) (fun w hw => insertionSort_c w _ _ _ A xs.length c cv xs Fc cs _ rfl lA (by first | assumption | omega | (simp; omega)) (by first | assumption | omega | (simp; omega)) (by first | assumption | omega | (simp; omega)) hw))) rfl rfl (kt0 rfl ?_)
    refine wl_nil ?_
    refine ce_then ?_
    refine cw_block ?_
    refine cw_loop1 (fun (u : Unit) => [(0, .slice A (xs.length) (cv)), (1, .int .i64 (((xs.length : Nat) : Int))), (2, .func (.func Fc) #[] cs.toArray), (6, .int .i64 (20))]) (fun (u : Unit) => (row 3 1 A (xs.length) (c) (cells fI (isort 0 (ltOf _) xs))) :: F) (fun (u : Unit) => True) (fun (u : Unit) => 0) () (by trivial) (.cons rfl (.cons rfl (.cons rfl (.cons rfl (.nil))))) (.cons (.head) (.refl)) ?_
    intro R1 u hk1 hR1
    refine cw_seq ?_
    refine cw_seq ?_
    refine cw_region ?_
    refine wl_v (ov_move rfl) rfl rfl rfl ?_
    refine wl_v (ov_move rfl) rfl rfl rfl ?_
    refine wl_if (ov_lss rfl rfl) rfl rfl rfl (fun c30 => ?_) (fun c30 => ?_)
    ·
      exfalso; omega
    ·
      refine wl_nil ?_
      refine ce_then ?_
      refine cw_false rfl ?_
      refine cw_exit ?_
      refine ce_then_exit ?_
      refine ce_then_exit ?_
      refine ce_hit ?_
      refine ce_results_n (v := .tuple #[]) (res0 rfl) (fun w' hw => ?_)
      exact ⟨rfl, ((.cons (.head) (.refl) : Keep _ _).ss hw)⟩
set_option maxRecDepth 100000 in
theorem sortStable_c (w : World) (w0 : World) (Bd : Nat) (F : List Ent) (A : Option Addr) (n : Nat) (c : Nat) (cv : Nat) (xs : List (Int)) (Fc : FuncId) (cs : List Value) (cmp : Int → Int → Int) (eA : xs.length = n) (lA : n ≤ cv) (hs : n ≤ 12) (hen : Enters Try.prog Fc) (hcmp : ∀ x ∈ xs, ∀ y ∈ xs, ∀ ys' w', SS w0 Bd ((row 3 1 A n c (cells fI ys')) :: F) w' → Calls Try.prog Fc ([] ++ [Value.int .i64 x, Value.int .i64 y] ++ cs).toArray w' (Ret fun v w'' => v = .int .i64 (cmp x y) ∧ New w' w'' [])) (hss : SS w0 Bd ((row 3 1 A (n) (c) (cells fI xs)) :: F) w) : Calls Try.prog 84 #[.slice A (n) (cv), .func (.func Fc) #[] cs.toArray] w (Ret fun rv w' => rv = undef ∧ SS w0 Bd ((row 3 1 A (n) (c) (cells fI (isort 0 (ltOf cmp) xs))) :: F) w') := by
  subst eA
  refine fn_enter (args := [.slice A (xs.length) (cv), .func (.func Fc) #[] cs.toArray]) Try.func84 rfl Try.ntmps84 rfl hss ?_
  refine cw_region ?_
  refine wl_v (ov_move rfl) rfl rfl rfl ?_
  refine wl_v (ov_move rfl) rfl rfl rfl ?_
  refine wl_v (ov_len (sliceI_spec sI23) rfl) rfl rfl rfl ?_
  refine wl_v (ov_move rfl) rfl rfl rfl ?_
  refine wl_r (or_call (fv := []) (vs := [.slice A (xs.length) (cv), .int .i64 (((xs.length : Nat) : Int)), .func (.func Fc) #[] cs.toArray]) (cs := []) en90 rfl rfl (call_m (.head) (fun w hw => stableCmp_c w _ _ _ A xs.length c cv xs Fc cs _ rfl lA (by first | assumption | omega | (simp; omega)) (by first | assumption | omega | (simp; omega)) (by first | assumption | omega | (simp; omega)) hw))) rfl rfl (kt0 rfl ?_)
  refine wl_nil ?_
  refine ce_results_n (v := .tuple #[]) (res0 rfl) (fun w' hw => ?_)
  exact ⟨rfl, ((.cons (.head) (.refl) : Keep _ _).ss hw)⟩
end Go.Proofs.Ytholcpgoioaccaa.W2
