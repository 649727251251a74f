/- Walks of functions of the given program: each returns what its Lean function says and leaves the memory that was there as it was. Conditions: those of each theorem. -/
import Derived.Test.YthbfgkeoojghoaaSm
import Derived.Test.YthbfgkeoojghoaaProg
import Derived.Test.YthbfgkeoojghoaaPl
import Derived.Test.YthbfgkeoojghoaaPo
import Derived.Test.YthbfgkeoojghoaaPd
import Derived.Test.YthbfgkeoojghoaaPe
import Derived.Test.YthbfgkeoojghoaaPh
import Derived.Test.YthbfgkeoojghoaaPm
import Derived.Test.YthbfgkeoojghoaaPc
import Derived.Test.YthbfgkeoojghoaaPs
import Derived.Test.YthbfgkeoojghoaaPt
import Derived.Test.YthbfgkeoojghoaaPu
import Derived.Test.YthbfgkeoojghoaaPv
import Derived.Test.YthbfgkeoojghoaaPw
import Derived.Test.YthbfgkeoojghoaaPx
import Derived.Test.YthbfgkeoojghoaaPy
import Derived.Test.YthbfgkeoojghoaaPz
import Derived.Test.YthbfgkeoojghoaaSo
import Derived.Test.YthbfgkeoojghoaaSh
import Derived.Test.YthbfgkeoojghoaaT
import Derived.Test.YthbfgkeoojghoaaW2
import Derived.Test.YthbfgkeoojghoaaW3
import Derived.Test.YthbfgkeoojghoaaW5
import Derived.Test.YthbfgkeoojghoaaW6
import Derived.Test.YthbfgkeoojghoaaW13
import Derived.KernelRfl
namespace Go.Proofs.Ythbfgkeoojghoaa.W42
open Go.Sx Go.RowKit Go.Proofs.Ythbfgkeoojghoaa.T Go.Proofs.Ythbfgkeoojghoaa.W2 Go.Proofs.Ythbfgkeoojghoaa.W3 Go.Proofs.Ythbfgkeoojghoaa.W5 Go.Proofs.Ythbfgkeoojghoaa.W6 Go.Proofs.Ythbfgkeoojghoaa.W13
open Go.Plain
set_option linter.unusedVariables false
set_option maxRecDepth 100000 in
theorem isNaNI_c (w : World) (a : Int)  : Calls Try.prog 113 #[.int .i64 (a)] w (Ret fun rv w' => rv = .bool false ∧ New w w' []) := by
  refine fn_enter (args := [.int .i64 (a)]) Try.func113 rfl Try.ntmps113 rfl (SS.start w) ?_
  refine cw_seq ?_
  refine cw_region ?_
  refine wl_v (ov_assign rfl) rfl rfl rfl ?_
  refine wl_nil ?_
  refine ce_then ?_
  refine cw_seq ?_
  refine cw_region ?_
  refine wl_v (ov_move rfl) rfl rfl rfl ?_
  refine wl_v (ov_move rfl) rfl rfl rfl ?_
  refine wl_if (ov_neq rfl rfl) rfl rfl rfl (fun c5 => ?_) (fun c5 => ?_)
  ·
    exact absurd rfl c5
  ·
    refine wl_v (ov_assign rfl) rfl rfl rfl ?_
    refine wl_nil ?_
    refine ce_then ?_
    refine cw_ret ?_
    refine ce_results (v := .bool false) (res1 rfl (rv_t rfl)) (fun w' hw => ?_)
    exact ⟨rfl, (Keep.nil.ss hw).to_new⟩
set_option maxRecDepth 100000 in
theorem cmpInt_c (w : World) (a : Int) (b : Int)  : Calls Try.prog 69 #[.int .i64 (a), .int .i64 (b)] w (Ret fun rv w' => ∃ v, ((v < 0 ↔ a < b) ∧ (v = 0 ↔ a = b)) ∧ rv = .int .i64 (v) ∧ New w w' []) := by
  refine fn_enter (args := [.int .i64 (a), .int .i64 (b)]) Try.func69 rfl Try.ntmps69 rfl (SS.start w) ?_
  refine cw_seq ?_
  refine cw_region ?_
  refine wl_v (ov_assign rfl) rfl rfl rfl ?_
  refine wl_nil ?_
  refine ce_then ?_
  refine cw_seq ?_
  refine cw_region ?_
  refine wl_v (ov_move rfl) rfl rfl rfl ?_
  refine wl_r (or_call (fv := []) (vs := [.int .i64 (a)]) (cs := []) en113 rfl rfl (call_v (fun w hw => isNaNI_c w a ))) rfl rfl (kt0 rfl ?_)
  refine wl_v (ov_assign rfl) rfl rfl rfl ?_
  refine wl_nil ?_
  refine ce_then ?_
  refine cw_seq ?_
  refine cw_region ?_
  refine wl_v (ov_move rfl) rfl rfl rfl ?_
  refine wl_r (or_call (fv := []) (vs := [.int .i64 (b)]) (cs := []) en113 rfl rfl (call_v (fun w hw => isNaNI_c w b ))) rfl rfl (kt0 rfl ?_)
  refine wl_v (ov_assign rfl) rfl rfl rfl ?_
  refine wl_nil ?_
  refine ce_then ?_
  refine cw_seq ?_
  refine cw_seq ?_
  refine cw_region ?_
  refine wl_v (ov_move rfl) rfl rfl rfl ?_
  refine wl_nil ?_
  refine ce_then ?_
  refine cw_false rfl ?_
  refine cw_skip ?_
  refine ce_then ?_
  refine cw_seq ?_
  refine cw_seq ?_
  refine cw_region ?_
  refine wl_v (ov_move rfl) rfl rfl rfl ?_
  refine wl_nil ?_
  refine ce_then ?_
  refine cw_false rfl ?_
  refine cw_skip ?_
  refine ce_then ?_
  refine cw_seq ?_
  refine cw_seq ?_
  refine cw_region ?_
  refine wl_v (ov_move rfl) rfl rfl rfl ?_
  refine wl_v (ov_move rfl) rfl rfl rfl ?_
  refine wl_if (ov_lss rfl rfl) rfl rfl rfl (fun c16 => ?_) (fun c16 => ?_)
  ·
    refine wl_nil ?_
    refine ce_then ?_
    refine cw_true rfl ?_
    refine cw_seq ?_
    refine cw_region ?_
    refine wl_v (ov_assign rfl) rfl rfl rfl ?_
    refine wl_nil ?_
    refine ce_then ?_
    refine cw_ret ?_
    refine ce_then_ret ?_
    refine ce_results (v := .int .i64 (-1)) (res1 rfl (rv_t rfl)) (fun w' hw => ?_)
    exact ⟨-1, ⟨by omega, by omega⟩, rfl, ((.nil : Keep _ _).ss hw).to_new⟩
  ·
    refine wl_nil ?_
    refine ce_then ?_
    refine cw_false rfl ?_
    refine cw_skip ?_
    refine ce_then ?_
    refine cw_seq ?_
    refine cw_seq ?_
    refine cw_region ?_
    refine wl_v (ov_move rfl) rfl rfl rfl ?_
    refine wl_v (ov_move rfl) rfl rfl rfl ?_
    refine wl_if (ov_gtr rfl rfl) rfl rfl rfl (fun c19 => ?_) (fun c19 => ?_)
    ·
      refine wl_nil ?_
      refine ce_then ?_
      refine cw_true rfl ?_
      refine cw_seq ?_
      refine cw_region ?_
      refine wl_v (ov_assign rfl) rfl rfl rfl ?_
      refine wl_nil ?_
      refine ce_then ?_
      refine cw_ret ?_
      refine ce_then_ret ?_
      refine ce_results (v := .int .i64 (1)) (res1 rfl (rv_t rfl)) (fun w' hw => ?_)
      exact ⟨1, ⟨by omega, by omega⟩, rfl, ((.nil : Keep _ _).ss hw).to_new⟩
    ·
      refine wl_nil ?_
      refine ce_then ?_
      refine cw_false rfl ?_
      refine cw_skip ?_
      refine ce_then ?_
      refine cw_seq ?_
      refine cw_region ?_
      refine wl_v (ov_assign rfl) rfl rfl rfl ?_
      refine wl_nil ?_
      refine ce_then ?_
      refine cw_ret ?_
      refine ce_results (v := .int .i64 (0)) (res1 rfl (rv_t rfl)) (fun w' hw => ?_)
      exact ⟨0, ⟨by omega, by omega⟩, rfl, ((.nil : Keep _ _).ss hw).to_new⟩
set_option maxRecDepth 100000 in
theorem compareI_c (w : World) (A : Option Addr) (n : Nat) (c : Nat) (xs : List (Int)) (A2 : Option Addr) (n2 : Nat) (c2 : Nat) (ys : List (Int)) (hA : At w A (cells fI xs)) (eA : xs.length = n) (lA : n ≤ c) (hA2 : At w A2 (cells fI ys)) (eA2 : ys.length = n2) (lA2 : n2 ≤ c2) (hs : xs.length ≤ 1000 ∧ ys.length ≤ 1000) : Calls Try.prog 52 #[.slice A (n) (c), .slice A2 (n2) (c2)] w (Ret fun rv w' => ∃ v, (v < 0 ↔ lexB xs ys = true) ∧ rv = .int .i64 (v) ∧ New w w' []) := by
  have oA := hA.atB
  subst eA
  have oA2 := hA2.atB
  subst eA2
  refine fn_enter (args := [.slice A (xs.length) (c), .slice A2 (ys.length) (c2)]) Try.func52 rfl Try.ntmps52 rfl (SS.start w) ?_
  refine cw_seq ?_
  refine cw_region ?_
  refine wl_v (ov_assign rfl) rfl rfl rfl ?_
  refine wl_nil ?_
  refine ce_then ?_
  refine cw_seq ?_
  refine cw_seq ?_
  refine cw_region ?_
  refine wl_v (ov_move rfl) rfl rfl rfl ?_
  refine wl_v (ov_len (sliceI_spec sI27) rfl) rfl rfl rfl ?_
  refine wl_v (ov_move rfl) rfl rfl rfl ?_
  refine wl_nil ?_
  refine ce_then ?_
  refine cw_block ?_
  refine cw_loop1 (fun (k : Nat) => [(0, .slice A (xs.length) (c)), (1, .slice A2 (ys.length) (c2)), (9, .slice A (xs.length) (c)), (10, .int .i64 (((xs.length : Nat) : Int))), (11, .int .i64 (((k : Nat) : Int)))]) (fun (k : Nat) => []) (fun (k : Nat) => k ≤ xs.length ∧ k ≤ ys.length ∧ lexB xs ys = lexB (xs.drop k) (ys.drop k)) (fun (k : Nat) => xs.length - k) 0 ⟨by omega, by omega, rfl⟩ (.cons rfl (.cons rfl (.cons rfl (.cons rfl (.cons (congrArg (fun z => some (Value.int .i64 z)) (show 0 = ((0 : Nat) : Int) by first | omega | rfl | (simp; done))) (.nil)))))) (.nil) ?_
  intro R0 k hk hR0
  obtain ⟨hk1, hk2, hk3⟩ := hk
  refine cw_seq ?_
  refine cw_region ?_
  refine wl_if (ov_lss rfl rfl) rfl rfl rfl (fun c12 => ?_) (fun c12 => ?_)
  ·
    refine wl_nil ?_
    refine ce_then ?_
    refine cw_seq ?_
    refine cw_true rfl ?_
    refine cw_skip ?_
    refine ce_then ?_
    refine cw_seq ?_
    refine cw_block ?_
    refine cw_seq ?_
    refine cw_region ?_
    refine wl_v (ov_move rfl) rfl rfl rfl ?_
    refine wl_v (ov_index (k := k) (c := c) sI27 tI3 rfl rfl (some_holds (q := k * 1) (holds_old oA) (by rw [cells_length fI_len]; have hlt : k < xs.length := (by omega); omega)) (show k < xs.length from (by omega))) rfl rfl rfl ?_
    refine wl_v (ov_load tI3 (holds_old oA) rfl (get_fI (show k < xs.length from (by omega)))) rfl rfl rfl ?_
    refine wl_v (ov_assign rfl) rfl rfl rfl ?_
    refine wl_v (ov_assign rfl) rfl rfl rfl ?_
    refine wl_nil ?_
    refine ce_then ?_
    refine cw_seq ?_
    refine cw_seq ?_
    refine cw_region ?_
    refine wl_v (ov_move rfl) rfl rfl rfl ?_
    refine wl_v (ov_move rfl) rfl rfl rfl ?_
    refine wl_v (ov_len (sliceI_spec sI27) rfl) rfl rfl rfl ?_
    refine wl_if (ov_geq rfl rfl) rfl rfl rfl (fun c19 => ?_) (fun c19 => ?_)
    ·
      refine wl_nil ?_
      refine ce_then ?_
      refine cw_true rfl ?_
      refine cw_seq ?_
      refine cw_region ?_
      refine wl_v (ov_assign rfl) rfl rfl rfl ?_
      refine wl_nil ?_
      refine ce_then ?_
      refine cw_ret ?_
      refine ce_then_ret ?_
      refine ce_block_ret ?_
      refine ce_then_ret ?_
      refine ce_then_ret ?_
      refine ce_block_ret ?_
      refine ce_then_ret ?_
      refine ce_results (v := .int .i64 (1)) (res1 rfl (rv_t rfl)) (fun w' hw => ?_)
      exact ⟨1, (by rw [hk3, drop_getD (es := xs) (i := k) (0 : Int) (by omega), List.drop_of_length_le (show ys.length ≤ k by omega)]; simp [lexB]), rfl, ((.nil : Keep _ _).ss hw).to_new⟩
    ·
      refine wl_nil ?_
      refine ce_then ?_
      refine cw_false rfl ?_
      refine cw_skip ?_
      refine ce_then ?_
      refine cw_seq ?_
      refine cw_region ?_
      refine wl_v (ov_move rfl) rfl rfl rfl ?_
      refine wl_v (ov_move rfl) rfl rfl rfl ?_
      refine wl_v (ov_index (k := k) (c := c2) sI27 tI3 rfl rfl (some_holds (q := k * 1) (holds_old oA2) (by rw [cells_length fI_len]; have hlt : k < ys.length := (by omega); omega)) (show k < ys.length from (by omega))) rfl rfl rfl ?_
      refine wl_v (ov_load tI3 (holds_old oA2) rfl (get_fI (show k < ys.length from (by omega)))) rfl rfl rfl ?_
      refine wl_v (ov_assign rfl) rfl rfl rfl ?_
      refine wl_nil ?_
      refine ce_then ?_
      refine cw_seq ?_
      refine cw_region ?_
      refine wl_v (ov_move rfl) rfl rfl rfl ?_
      refine wl_v (ov_move rfl) rfl rfl rfl ?_
      refine wl_r (or_call (fv := []) (vs := [.int .i64 ((xs.getD k 0)), .int .i64 ((ys.getD k 0))]) (cs := []) en69 rfl rfl (call_x1 (fun w hw => cmpInt_c w (xs.getD k 0) (ys.getD k 0) ))) rfl rfl (kt1p rfl (fun v_26 h_26 => ?_))
      refine wl_v (ov_assign rfl) rfl rfl rfl ?_
      refine wl_nil ?_
      refine ce_then ?_
      refine cw_seq ?_
      refine cw_region ?_
      refine wl_v (ov_move rfl) rfl rfl rfl ?_
      refine wl_if (ov_neq rfl rfl) rfl rfl rfl (fun c28 => ?_) (fun c28 => ?_)
      ·
        refine wl_nil ?_
        refine ce_then ?_
        refine cw_true rfl ?_
        refine cw_seq ?_
        refine cw_region ?_
        refine wl_v (ov_move rfl) rfl rfl rfl ?_
        refine wl_v (ov_assign rfl) rfl rfl rfl ?_
        refine wl_nil ?_
        refine ce_then ?_
        refine cw_ret ?_
        refine ce_block_ret ?_
        refine ce_then_ret ?_
        refine ce_then_ret ?_
        refine ce_block_ret ?_
        refine ce_then_ret ?_
        refine ce_results (v := .int .i64 (v_26)) (res1 rfl (rv_t rfl)) (fun w' hw => ?_)
        exact ⟨v_26, (by rw [hk3, drop_getD (es := xs) (i := k) (0 : Int) (by omega), drop_getD (es := ys) (i := k) (0 : Int) (by omega), lexB, decide_eq_false (fun h => c28 (h_26.2.2 h))]; rw [Bool.false_and, Bool.or_false, decide_eq_true_eq]; exact h_26.1), rfl, ((.nil : Keep _ _).ss hw).to_new⟩
      ·
        refine wl_nil ?_
        refine ce_then ?_
        refine cw_false rfl ?_
        refine cw_skip ?_
        refine ce_block ?_
        refine ce_then ?_
        refine cw_region ?_
        refine wl_v (ov_add (r := ((k + 1 : Nat) : Int)) rfl rfl rfl (by omega)) rfl rfl rfl ?_
        refine wl_v (ov_move rfl) rfl rfl rfl ?_
        refine wl_nil ?_
        exact fun ac_ w_ hs_ => hR0 (k + 1) ⟨by omega, by omega, by rw [hk3, drop_getD (es := xs) (i := k) (0 : Int) (by omega), drop_getD (es := ys) (i := k) (0 : Int) (by omega), lexB, decide_eq_false (by omega), decide_eq_true (h_26.2.1 (by omega))]; rfl⟩ (by omega) ac_ w_ (hs_.weaken (.cons rfl (.cons rfl (.cons rfl (.cons rfl (.cons rfl (.nil)))))) (.nil))
  ·
    refine wl_nil ?_
    refine ce_then ?_
    refine cw_seq ?_
    refine cw_false rfl ?_
    refine cw_exit ?_
    refine ce_then_exit ?_
    refine ce_then_exit ?_
    refine ce_hit ?_
    refine ce_then ?_
    refine cw_seq ?_
    refine cw_seq ?_
    refine cw_region ?_
    refine wl_v (ov_move rfl) rfl rfl rfl ?_
    refine wl_v (ov_len (sliceI_spec sI27) rfl) rfl rfl rfl ?_
    refine wl_v (ov_move rfl) rfl rfl rfl ?_
    refine wl_v (ov_len (sliceI_spec sI27) rfl) rfl rfl rfl ?_
    refine wl_if (ov_lss rfl rfl) rfl rfl rfl (fun c35 => ?_) (fun c35 => ?_)
    ·
      refine wl_nil ?_
      refine ce_then ?_
      refine cw_true rfl ?_
      refine cw_seq ?_
      refine cw_region ?_
      refine wl_v (ov_assign rfl) rfl rfl rfl ?_
      refine wl_nil ?_
      refine ce_then ?_
      refine cw_ret ?_
      refine ce_then_ret ?_
      refine ce_results (v := .int .i64 (-1)) (res1 rfl (rv_t rfl)) (fun w' hw => ?_)
      exact ⟨-1, (by rw [hk3, List.drop_of_length_le (show xs.length ≤ k by omega), drop_getD (es := ys) (i := k) (0 : Int) (by omega)]; simp [lexB]), rfl, ((.nil : Keep _ _).ss hw).to_new⟩
    ·
      refine wl_nil ?_
      refine ce_then ?_
      refine cw_false rfl ?_
      refine cw_skip ?_
      refine ce_then ?_
      refine cw_seq ?_
      refine cw_region ?_
      refine wl_v (ov_assign rfl) rfl rfl rfl ?_
      refine wl_nil ?_
      refine ce_then ?_
      refine cw_ret ?_
      refine ce_results (v := .int .i64 (0)) (res1 rfl (rv_t rfl)) (fun w' hw => ?_)
      exact ⟨0, (by rw [hk3, List.drop_of_length_le (show xs.length ≤ k by omega), List.drop_of_length_le (show ys.length ≤ k by omega)]; simp [lexB]), rfl, ((.nil : Keep _ _).ss hw).to_new⟩
set_option maxRecDepth 100000 in
theorem bar1_c (w : World) (v : Nat) (g1 : Nat) (k : Nat) (hg1 : At w (some ⟨g1, 0, none⟩) [.int .i64 (((k : Nat) : Int))]) (hv : v ≤ 62) : Calls Try.prog 51 #[.int .i64 (((v : Nat) : Int)), elp (some ⟨g1, 0, none⟩) (0)] w (Ret fun rv w' => rv = .bool (decide (k / 2 ^ v % 2 = 0)) ∧ New w w' []) := by
  have og1 := hg1.atB
  refine fn_enter (args := [.int .i64 (((v : Nat) : Int)), elp (some ⟨g1, 0, none⟩) (0)]) Try.func51 rfl Try.ntmps51 rfl (SS.start w) ?_
  refine cw_seq ?_
  refine cw_region ?_
  refine wl_v (ov_assign rfl) rfl rfl rfl ?_
  refine wl_nil ?_
  refine ce_then ?_
  refine cw_seq ?_
  refine cw_region ?_
  refine wl_v (ov_load tI3 (holds_old og1) rfl rfl) rfl rfl rfl ?_
  refine wl_v (ov_move rfl) rfl rfl rfl ?_
  refine wl_v (ov_shr (a := k) (b := v) (r := k / 2 ^ v) rfl rfl (by omega) rfl) rfl rfl rfl ?_
  refine wl_v (ov_and1 (a := k / 2 ^ v) (r := (k / 2 ^ v) % 2) rfl rfl rfl) rfl rfl rfl ?_
  refine wl_if (ov_eql rfl rfl) rfl rfl rfl (fun c8 => ?_) (fun c8 => ?_)
  ·
    refine wl_v (ov_assign rfl) rfl rfl rfl ?_
    refine wl_nil ?_
    refine ce_then ?_
    refine cw_ret ?_
    refine ce_results (v := .bool true) (res1 rfl (rv_t rfl)) (fun w' hw => ?_)
    exact ⟨(by rw [decide_eq_true (show k / 2 ^ v % 2 = 0 by omega)]), (Keep.nil.ss hw).to_new⟩
  ·
    refine wl_v (ov_assign rfl) rfl rfl rfl ?_
    refine wl_nil ?_
    refine ce_then ?_
    refine cw_ret ?_
    refine ce_results (v := .bool false) (res1 rfl (rv_t rfl)) (fun w' hw => ?_)
    exact ⟨(by rw [decide_eq_false (show ¬ (k / 2 ^ v % 2 = 0) by omega)]), (Keep.nil.ss hw).to_new⟩
set_option maxRecDepth 100000 in
theorem BarI_c (w : World) (N : Int) (A : Option Addr) (n : Nat) (c : Nat) (es : List (Int × Int)) (hA : At w A (cells fE es)) (eA : es.length = n) (lA : n ≤ c) (hs : es.length ≤ 1048576) (hN : N ≤ 9223372036854775807) : Calls Try.prog 10 #[.agg #[.int .i64 (N), .slice A (n) (c)]] w (Ret fun rv w' => ∃ A2 k2 c2, ((barV N es).length ≤ k2) ∧ rv = .slice A2 ((barV N es).length) (k2) ∧ New w w' [row 3 1 A2 ((barV N es).length) (c2) (cells fI (barV N es))]) := by
  have oA := hA.atB
  subst eA
  refine fn_enter (args := [.agg #[.int .i64 (N), .slice A (es.length) (c)]]) Try.func10 rfl Try.ntmps10 rfl (SS.start w) ?_
  refine cw_seq ?_
  refine cw_region ?_
  refine wl_r (or_box rfl rfl) rfl rfl (kt1 rfl (fun g1 => ?_))
  refine wl_v (ov_assign rfl) rfl rfl rfl ?_
  refine wl_nil ?_
  refine ce_then ?_
  refine cw_seq ?_
  refine cw_seq ?_
  refine cw_region ?_
  refine wl_v (ov_loadAgg (vs := [.int .i64 (N), .slice A (es.length) (c)]) tI25 (holds_blk (List.Mem.head _)) rfl some_lit rfl rfl) rfl rfl rfl ?_
  refine wl_r (or_call (fv := []) (vs := [.agg #[.int .i64 (N), .slice A (es.length) (c)]]) (cs := []) en13 rfl rfl (call_v (fun w hw => validGraphI_c w N A es.length c es ((holds_old oA) w hw) rfl lA (by first | assumption | omega | (simp; omega)) (by first | assumption | omega | (simp; omega))))) rfl rfl (kt_if rfl (fun c9 => ?_) (fun c9 => ?_))
  ·
    refine wl_v (ov_not rfl) rfl rfl rfl ?_
    refine wl_nil ?_
    refine ce_then ?_
    refine cw_false rfl ?_
    refine cw_skip ?_
    refine ce_then ?_
    refine cw_seq ?_
    obtain ⟨m, rfl⟩ := Int.eq_ofNat_of_zero_le (show 0 ≤ N from c9.2.1)
    have hg : Gr m es := by have h9 := c9.gr; rwa [Int.toNat_natCast] at h9
    have hm : m ≤ 7 := by have h9 := c9.2.2; omega
    have hel := hg.len (by omega)
    have hp2 := pow2_bd hm
    have hv : barV ((m : Nat) : Int) es = barTo m es (2 ^ m - 1) := (if_pos c9).trans (by rw [Int.toNat_natCast])
    refine ct_none fI 3 1 ?_
    refine cw_region ?_
    refine wl_v (ov_assign rfl) rfl rfl rfl ?_
    refine wl_nil ?_
    refine ce_then ?_
    refine cw_seq ?_
    refine cw_region ?_
    refine wl_v (ov_loadAgg (vs := [.int .i64 (((m : Nat) : Int)), .slice A (es.length) (c)]) tI25 (holds_blk (List.Mem.tail _ (List.Mem.head _))) rfl some_lit rfl rfl) rfl rfl rfl ?_
    refine wl_r (or_call (fv := []) (vs := [.agg #[.int .i64 (((m : Nat) : Int)), .slice A (es.length) (c)], .slice none (0) (0)]) (cs := []) en48 rfl rfl (call_v (fun w hw => oddPartsI_c w m A es.length c es none 0 0 ([] : List Int) ((holds_old oA) w hw) rfl lA ((fun _ _ => At.nil) w hw) (by first | rfl | (simp; done) | (simp; omega)) (Nat.le_refl _) (by first | assumption | omega | (simp; omega)) (by first | assumption | omega | (simp; omega)) (by simp)))) rfl rfl (kt0 rfl ?_)
    refine ct_keep (L' := [(0, .agg #[.int .i64 (((m : Nat) : Int)), .slice A (es.length) (c)]), (1, elp (some ⟨g1, 0, none⟩) (0)), (2, .slice none (0) (0)), (3, .slice none (0) (0)), (8, .agg #[.int .i64 (((m : Nat) : Int)), .slice A (es.length) (c)]), (9, .bool true), (10, .bool false), (11, .agg #[.int .i64 (((m : Nat) : Int)), .slice A (es.length) (c)]), (12, .int .i64 (scoreV m es []))]) (.cons rfl (.cons rfl (.cons rfl (.cons rfl (.cons rfl (.cons rfl (.cons rfl (.cons rfl (.cons (congrArg (fun z => some (Value.int .i64 z)) (show (oddP m es ([] : List Int)) = (scoreV m es []) from (by simp [scoreV]))) (.nil)))))))))) .refl ?_
    refine wl_v (ov_assign rfl) rfl rfl rfl ?_
    refine wl_nil ?_
    refine ce_then ?_
    refine cw_seq ?_
    refine cw_seq ?_
    refine cw_region ?_
    refine wl_r (or_alloc tI3 rfl) rfl rfl (kt1 rfl (fun g5 => ?_))
    refine wl_r0 (or_store_blk (vs := [.int .i64 (1)]) (cs' := [.int .i64 (1)]) (.head) tI3 rfl rfl rfl rfl (Nat.le_of_ble_eq_true rfl) rfl) rfl rfl (kn0 ?_)
    refine wl_nil ?_
    refine ce_then ?_
    refine cw_block ?_
    refine cw_loop5 (fun (k : Nat) (gb : Nat) (Ab : Option Addr) (cb : Nat) (bs : List Int) => [(1, elp (some ⟨g1, 0, none⟩) (0)), (2, .slice none (0) (0)), (3, .slice Ab (bs.length) (cb)), (4, .int .i64 (scoreV m es bs)), (5, elp (some ⟨gb, 0, none⟩) (0))]) (fun (k : Nat) (gb : Nat) (Ab : Option Addr) (cb : Nat) (bs : List Int) => [blk gb [.int .i64 (((k : Nat) : Int))] 3, row 3 1 Ab (bs.length) (cb) (cells fI bs), blk g1 [.int .i64 (((m : Nat) : Int)), .slice A (es.length) (c)] 25]) (fun (k : Nat) (gb : Nat) (Ab : Option Addr) (cb : Nat) (bs : List Int) => 1 ≤ k ∧ k ≤ 2 ^ m ∧ bs = barTo m es (k - 1) ∧ bs.length ≤ cb) (fun (k : Nat) (gb : Nat) (Ab : Option Addr) (cb : Nat) (bs : List Int) => 2 ^ m - k) 1 g5 none 0 ([]) ⟨by omega, by omega, rfl, Nat.le_refl _⟩ (.cons rfl (.cons rfl (.cons (congrArg (fun z => some (Value.slice none z 0)) (show 0 = (([]).length) from rfl)) (.cons (congrArg (fun z => some (Value.int .i64 z)) (show (scoreV m es []) = (scoreV m es ([])) from rfl)) (.cons rfl (.nil)))))) (.cons (.head) (.consE (show row 3 1 none (0) (0) (cells fI ([])) = row 3 1 none (([]).length) (0) (cells fI ([])) by rfl) (.head) (.cons (.head) (.nil)))) ?_
    intro R0 k gb Ab cb bs hk hR0
    obtain ⟨hk1, hk2, hk3, hk4⟩ := hk
    have hbl := bar_len m es (k - 1)
    rw [← hk3] at hbl
    have hml := maskS_len m k
    have hob := oddP_bd (n := m) (es := es) (s := maskS m k)
    have hob2 := oddP_bd (n := m) (es := es) (s := bs)
    have hsc : scoreV m es bs = oddP m es bs - bs.length := rfl
    have hsc2 : scoreV m es (maskS m k) = oddP m es (maskS m k) - (maskS m k).length := rfl
    have hp2 := pow2_bd hm
    have hil := idx_len m (-1)
    have hmi : (maskS m k).length ≤ (idx m (-1)).length := by rw [idx_all]; exact hml
    refine cw_seq ?_
    refine cw_seq ?_
    refine cw_draw mixO [] (.cons (.head) (.cons (.head) (.cons (.head) (.nil)))) rfl ?_
    refine wg_take (i := 0) rfl (ov_load tI3 (holds_blk (List.Mem.head _)) rfl rfl) rfl rfl rfl (by kernel_rfl) (by kernel_rfl) (by kernel_rfl) (by kernel_rfl) ?_
    refine wg_take (i := 1) rfl (ov_fieldAddr fI25_0 some_lit rfl) rfl rfl rfl (by kernel_rfl) (by kernel_rfl) (by kernel_rfl) (by kernel_rfl) ?_
    refine wg_take (i := 2) rfl (ov_load tI3 (holds_blk (List.Mem.tail _ (List.Mem.tail _ (List.Mem.head _)))) rfl rfl) rfl rfl rfl (by kernel_rfl) (by kernel_rfl) (by kernel_rfl) (by kernel_rfl) ?_
    refine wg_takep (i := 3) rfl (ov_shl (a := 1) (b := m) (r := 2 ^ m) rfl rfl (by omega) (Nat.one_mul _).symm (by omega)) rfl rfl rfl (by kernel_rfl) (by kernel_rfl) (by kernel_rfl) rfl ?_
    refine wg_takep_if (i := 4) rfl (ov_lss rfl rfl) rfl rfl rfl (by kernel_rfl) (by kernel_rfl) (by kernel_rfl) rfl (fun c17 => ?_) (fun c17 => ?_)
    ·
      refine wg_done (by kernel_rfl) ?_
      refine ce_then ?_
      refine cw_true rfl ?_
      refine cw_skip ?_
      refine ce_then ?_
      refine cw_seq ?_
      refine cw_block ?_
      refine cw_seq ?_
      refine cw_region ?_
      refine wl_v (ov_fieldAddr fI25_0 some_lit rfl) rfl rfl rfl ?_
      refine wl_v (ov_load tI3 (holds_blk (List.Mem.tail _ (List.Mem.tail _ (List.Mem.head _)))) rfl rfl) rfl rfl rfl ?_
      refine wl_r (or_call (fv := []) (vs := [.int .i64 (((m : Nat) : Int)), .int .i64 (-1)]) (cs := []) en50 rfl rfl (call_x2 (fun w hw => indices_c w m (-1) (by first | assumption | omega | (simp; omega))))) rfl rfl (kt2p rfl (fun A2_22 c2_22 h_22 => ?_))
      refine wl_v (ov_makeFunc (vs := #[elp (some ⟨gb, 0, none⟩) (0)]) rfl) rfl rfl rfl ?_
      refine wl_r (or_call (fv := []) (vs := [.slice A2_22 ((idx m (-1)).length) (c2_22), .func (.func 51) #[] #[elp (some ⟨gb, 0, none⟩) (0)]]) (cs := []) en49 rfl rfl (call_m (.head) (fun w hw => deleteFuncI_c w _ _ _ A2_22 ((idx m (-1)).length) c2_22 c2_22 (idx m (-1)) 51 ([elp (some ⟨gb, 0, none⟩) (0)]) (fun x : Int => decide (k / 2 ^ x.toNat % 2 = 0)) rfl h_22 (by first | assumption | omega | (simp; omega)) en51 (fun x hx ys' w' hw' => by have hx9 := idx_mem.1 hx; have h9 := bar1_c w' x.toNat gb k ((holds_blk (List.Mem.tail _ (List.Mem.head _))) w' hw') (by omega); rw [Int.toNat_of_nonneg hx9.1] at h9; exact h9) hw))) rfl rfl (kt0 rfl ?_)
      refine ct_keep (L' := [(1, elp (some ⟨g1, 0, none⟩) (0)), (2, .slice none (0) (0)), (3, .slice Ab (bs.length) (cb)), (4, .int .i64 (scoreV m es bs)), (5, elp (some ⟨gb, 0, none⟩) (0)), (13, .int .i64 (((k : Nat) : Int))), (14, elp (some ⟨g1, 0, none⟩) (0)), (15, .int .i64 (((m : Nat) : Int))), (16, .int .i64 (((2 ^ m : Nat) : Int))), (17, .bool true), (20, elp (some ⟨g1, 0, none⟩) (0)), (21, .int .i64 (((m : Nat) : Int))), (22, .slice A2_22 ((idx m (-1)).length) (c2_22)), (23, .func (.func 51) #[] #[elp (some ⟨gb, 0, none⟩) (0)]), (24, .slice A2_22 (((idx m (-1)).filter (fun x => !(fun x : Int => decide (k / 2 ^ x.toNat % 2 = 0)) x)).length) (c2_22))]) (.cons rfl (.cons rfl (.cons rfl (.cons rfl (.cons rfl (.cons rfl (.cons rfl (.cons rfl (.cons rfl (.cons rfl (.cons rfl (.cons rfl (.cons rfl (.cons rfl (.cons rfl (.nil)))))))))))))))) (.consE (show row 3 1 A2_22 (((idx m (-1)).filter (fun x => !(fun x : Int => decide (k / 2 ^ x.toNat % 2 = 0)) x)).length) (c2_22) (cells fI ((idx m (-1)).filter (fun x => !(fun x : Int => decide (k / 2 ^ x.toNat % 2 = 0)) x))) = row 3 1 A2_22 ((maskS m k).length) (c2_22) (cells fI (maskS m k)) by rw [maskS_idx]) (.head) (.cons (.head) (.cons (.head) (.cons (.head) (.nil))))) ?_
      refine ct_keep (L' := [(1, elp (some ⟨g1, 0, none⟩) (0)), (2, .slice none (0) (0)), (3, .slice Ab (bs.length) (cb)), (4, .int .i64 (scoreV m es bs)), (5, elp (some ⟨gb, 0, none⟩) (0)), (13, .int .i64 (((k : Nat) : Int))), (14, elp (some ⟨g1, 0, none⟩) (0)), (15, .int .i64 (((m : Nat) : Int))), (16, .int .i64 (((2 ^ m : Nat) : Int))), (17, .bool true), (20, elp (some ⟨g1, 0, none⟩) (0)), (21, .int .i64 (((m : Nat) : Int))), (22, .slice A2_22 ((idx m (-1)).length) (c2_22)), (23, .func (.func 51) #[] #[elp (some ⟨gb, 0, none⟩) (0)]), (24, .slice A2_22 ((maskS m k).length) (c2_22))]) (.cons rfl (.cons rfl (.cons rfl (.cons rfl (.cons rfl (.cons rfl (.cons rfl (.cons rfl (.cons rfl (.cons rfl (.cons rfl (.cons rfl (.cons rfl (.cons rfl (.cons (congrArg (fun z => some (Value.slice A2_22 z c2_22)) (show (((idx m (-1)).filter (fun x => !(fun x : Int => decide (k / 2 ^ x.toNat % 2 = 0)) x)).length) = ((maskS m k).length) from (by rw [maskS_idx]))) (.nil)))))))))))))))) .refl ?_
      refine wl_v (ov_assign rfl) rfl rfl rfl ?_
      refine wl_nil ?_
      refine ce_then ?_
      refine cw_seq ?_
      refine cw_region ?_
      refine wl_v (ov_loadAgg (vs := [.int .i64 (((m : Nat) : Int)), .slice A (es.length) (c)]) tI25 (holds_blk (List.Mem.tail _ (List.Mem.tail _ (List.Mem.tail _ (List.Mem.head _))))) rfl some_lit rfl rfl) rfl rfl rfl ?_
      refine wl_v (ov_move rfl) rfl rfl rfl ?_
      refine wl_r (or_call (fv := []) (vs := [.agg #[.int .i64 (((m : Nat) : Int)), .slice A (es.length) (c)], .slice A2_22 ((maskS m k).length) (c2_22)]) (cs := []) en48 rfl rfl (call_v (fun w hw => oddPartsI_c w m A es.length c es A2_22 ((maskS m k).length) c2_22 (maskS m k) ((holds_old oA) w hw) rfl lA ((holds_row (List.Mem.head _)) w hw) rfl (by rw [maskS_idx]; exact (Nat.le_trans (List.length_filter_le (fun x => !(fun x : Int => decide (k / 2 ^ x.toNat % 2 = 0)) x) (idx m (-1))) h_22)) (by first | assumption | omega | (simp; omega)) (by first | assumption | omega | (simp; omega)) (by first | assumption | omega | (simp; omega))))) rfl rfl (kt0 rfl ?_)
      refine wl_v (ov_move rfl) rfl rfl rfl ?_
      refine wl_v (ov_len (sliceI_spec sI27) rfl) rfl rfl rfl ?_
      refine wl_v (ov_sub (r := (oddP m es (maskS m k)) - (((maskS m k).length : Nat) : Int)) rfl rfl rfl (by omega)) rfl rfl rfl ?_
      refine wl_v (ov_assign rfl) rfl rfl rfl ?_
      refine wl_nil ?_
      refine ce_then ?_
      refine cw_seq ?_
      refine cw_region ?_
      refine wl_v (ov_move rfl) rfl rfl rfl ?_
      refine wl_v (ov_move rfl) rfl rfl rfl ?_
      refine wl_if (ov_gtr rfl rfl) rfl rfl rfl (fun c33 => ?_) (fun c33 => ?_)
      ·
        refine wl_v (ov_move rfl) rfl rfl rfl ?_
        refine wl_not rfl rfl rfl rfl rfl rfl ?_
        refine wl_not rfl rfl rfl rfl rfl rfl ?_
        refine wl_not rfl rfl rfl rfl rfl rfl ?_
        refine wl_not rfl rfl rfl rfl rfl rfl ?_
        refine wl_notu rfl rfl rfl rfl rfl ?_
        refine wl_notu rfl rfl rfl rfl rfl ?_
        refine wl_notu rfl rfl rfl rfl rfl ?_
        refine wl_notu rfl rfl rfl rfl rfl ?_
        refine wl_notu rfl rfl rfl rfl rfl ?_
        refine wl_notu rfl rfl rfl rfl rfl ?_
        refine wl_notu rfl rfl rfl rfl rfl ?_
        refine wl_notu rfl rfl rfl rfl rfl ?_
        refine wl_notu rfl rfl rfl rfl rfl ?_
        refine wl_notu rfl rfl rfl rfl rfl ?_
        refine wl_notu rfl rfl rfl rfl rfl ?_
        refine wl_notu rfl rfl rfl rfl rfl ?_
        refine wl_notu rfl rfl rfl rfl rfl ?_
        refine wl_notu rfl rfl rfl rfl rfl ?_
        refine wl_notu rfl rfl rfl rfl rfl ?_
        refine wl_notu rfl rfl rfl rfl rfl ?_
        refine wl_notu rfl rfl rfl rfl rfl ?_
        refine wl_notu rfl rfl rfl rfl rfl ?_
        refine wl_not rfl rfl rfl rfl rfl rfl ?_
        refine wl_v (ov_pick_t rfl rfl) rfl rfl rfl ?_
        refine wl_nil ?_
        refine ce_then ?_
        refine cw_true rfl ?_
        refine cw_region ?_
        refine wl_v (ov_move rfl) rfl rfl rfl ?_
        refine wl_v (ov_move rfl) rfl rfl rfl ?_
        refine wl_v (ov_assign rfl) rfl rfl rfl ?_
        refine wl_v (ov_assign rfl) rfl rfl rfl ?_
        refine wl_nil ?_
        refine ce_block ?_
        refine ce_then ?_
        refine cw_seq ?_
        refine cw_seq ?_
        refine cw_region ?_
        refine wl_v (ov_load tI3 (holds_blk (List.Mem.tail _ (List.Mem.head _))) rfl rfl) rfl rfl rfl ?_
        refine wl_nil ?_
        refine ce_then ?_
        refine cw_region ?_
        refine wl_r (or_alloc tI3 rfl) rfl rfl (kt1 rfl (fun g5x => ?_))
        refine wl_r0 (or_store_blk (vs := [.int .i64 (((k : Nat) : Int))]) (cs' := [.int .i64 (((k : Nat) : Int))]) (.head) tI3 rfl rfl rfl rfl (Nat.le_of_ble_eq_true rfl) rfl) rfl rfl (kn0 ?_)
        refine wl_nil ?_
        refine ce_then ?_
        refine cw_region ?_
        refine wl_v (ov_load tI3 (holds_blk (List.Mem.head _)) rfl rfl) rfl rfl rfl ?_
        refine wl_v (ov_add (r := ((k + 1 : Nat) : Int)) rfl rfl rfl (by omega)) rfl rfl rfl ?_
        refine wl_r0 (or_store_blk (vs := [.int .i64 (((k + 1 : Nat) : Int))]) (cs' := [.int .i64 (((k + 1 : Nat) : Int))]) (.head) tI3 rfl rfl rfl rfl (Nat.le_of_ble_eq_true rfl) rfl) rfl rfl (kn0 ?_)
        refine wl_nil ?_
        have hbt : better (scoreV m es) (maskS m k) (barTo m es (k - 1)) = true := by rw [← hk3]; exact (better_iff _).2 (.inl (by omega))
        exact fun ac_ w_ hs_ => hR0 (k + 1) g5x A2_22 c2_22 (maskS m k) ⟨by omega, by omega, (bar_t (by omega) hbt).symm, by omega⟩ (by omega) ac_ w_ (hs_.weaken (.cons rfl (.cons rfl (.cons rfl (.cons (congrArg (fun z => some (Value.int .i64 z)) (show ((oddP m es (maskS m k)) - (((maskS m k).length : Nat) : Int)) = (scoreV m es (maskS m k)) by first | omega | rfl | (simp; done))) (.cons rfl (.nil)))))) (.cons (.head) (.cons (.head) (.cons (.tail (.tail .head)) (.nil)))))
      ·
        refine wl_v (ov_move rfl) rfl rfl rfl ?_
        refine wl_go rfl rfl ?_
        refine wl_v (ov_move rfl) rfl rfl rfl ?_
        refine wl_go rfl rfl ?_
        refine wl_v (ov_move rfl) rfl rfl rfl ?_
        refine wl_go rfl rfl ?_
        refine wl_if (ov_eql rfl rfl) rfl rfl rfl (fun c37 => ?_) (fun c37 => ?_)
        ·
          refine wl_go rfl rfl ?_
          refine wl_v (ov_move rfl) rfl rfl rfl ?_
          refine wl_go rfl rfl ?_
          refine wl_v (ov_move rfl) rfl rfl rfl ?_
          refine wl_go rfl rfl ?_
          refine wl_v (ov_len (sliceI_spec sI27) rfl) rfl rfl rfl ?_
          refine wl_go rfl rfl ?_
          refine wl_v (ov_move rfl) rfl rfl rfl ?_
          refine wl_go rfl rfl ?_
          refine wl_v (ov_len (sliceI_spec sI27) rfl) rfl rfl rfl ?_
          refine wl_go rfl rfl ?_
          refine wl_if (ov_lss rfl rfl) rfl rfl rfl (fun c43 => ?_) (fun c43 => ?_)
          ·
            refine wl_go rfl rfl ?_
            refine wl_v (ov_move rfl) rfl rfl rfl ?_
            refine wl_not rfl rfl rfl rfl rfl rfl ?_
            refine wl_not rfl rfl rfl rfl rfl rfl ?_
            refine wl_not rfl rfl rfl rfl rfl rfl ?_
            refine wl_not rfl rfl rfl rfl rfl rfl ?_
            refine wl_not rfl rfl rfl rfl rfl rfl ?_
            refine wl_not rfl rfl rfl rfl rfl rfl ?_
            refine wl_notu rfl rfl rfl rfl rfl ?_
            refine wl_notu rfl rfl rfl rfl rfl ?_
            refine wl_notu rfl rfl rfl rfl rfl ?_
            refine wl_notu rfl rfl rfl rfl rfl ?_
            refine wl_not rfl rfl rfl rfl rfl rfl ?_
            refine wl_go rfl rfl ?_
            refine wl_v (ov_pick_t rfl rfl) rfl rfl rfl ?_
            refine wl_go rfl rfl ?_
            refine wl_v (ov_pick_t rfl rfl) rfl rfl rfl ?_
            refine wl_v (ov_pick_f rfl rfl) rfl rfl rfl ?_
            refine wl_nil ?_
            refine ce_then ?_
            refine cw_true rfl ?_
            refine cw_region ?_
            refine wl_v (ov_move rfl) rfl rfl rfl ?_
            refine wl_v (ov_move rfl) rfl rfl rfl ?_
            refine wl_v (ov_assign rfl) rfl rfl rfl ?_
            refine wl_v (ov_assign rfl) rfl rfl rfl ?_
            refine wl_nil ?_
            refine ce_block ?_
            refine ce_then ?_
            refine cw_seq ?_
            refine cw_seq ?_
            refine cw_region ?_
            refine wl_v (ov_load tI3 (holds_blk (List.Mem.tail _ (List.Mem.head _))) rfl rfl) rfl rfl rfl ?_
            refine wl_nil ?_
            refine ce_then ?_
            refine cw_region ?_
            refine wl_r (or_alloc tI3 rfl) rfl rfl (kt1 rfl (fun g5x => ?_))
            refine wl_r0 (or_store_blk (vs := [.int .i64 (((k : Nat) : Int))]) (cs' := [.int .i64 (((k : Nat) : Int))]) (.head) tI3 rfl rfl rfl rfl (Nat.le_of_ble_eq_true rfl) rfl) rfl rfl (kn0 ?_)
            refine wl_nil ?_
            refine ce_then ?_
            refine cw_region ?_
            refine wl_v (ov_load tI3 (holds_blk (List.Mem.head _)) rfl rfl) rfl rfl rfl ?_
            refine wl_v (ov_add (r := ((k + 1 : Nat) : Int)) rfl rfl rfl (by omega)) rfl rfl rfl ?_
            refine wl_r0 (or_store_blk (vs := [.int .i64 (((k + 1 : Nat) : Int))]) (cs' := [.int .i64 (((k + 1 : Nat) : Int))]) (.head) tI3 rfl rfl rfl rfl (Nat.le_of_ble_eq_true rfl) rfl) rfl rfl (kn0 ?_)
            refine wl_nil ?_
            have hbt : better (scoreV m es) (maskS m k) (barTo m es (k - 1)) = true := by rw [← hk3]; exact (better_iff _).2 (.inr ⟨by omega, .inl (by omega)⟩)
            exact fun ac_ w_ hs_ => hR0 (k + 1) g5x A2_22 c2_22 (maskS m k) ⟨by omega, by omega, (bar_t (by omega) hbt).symm, by omega⟩ (by omega) ac_ w_ (hs_.weaken (.cons rfl (.cons rfl (.cons rfl (.cons (congrArg (fun z => some (Value.int .i64 z)) (show ((oddP m es (maskS m k)) - (((maskS m k).length : Nat) : Int)) = (scoreV m es (maskS m k)) by first | omega | rfl | (simp; done))) (.cons rfl (.nil)))))) (.cons (.head) (.cons (.head) (.cons (.tail (.tail .head)) (.nil)))))
          ·
            refine wl_go rfl rfl ?_
            refine wl_v (ov_move rfl) rfl rfl rfl ?_
            refine wl_go rfl rfl ?_
            refine wl_v (ov_move rfl) rfl rfl rfl ?_
            refine wl_go rfl rfl ?_
            refine wl_v (ov_len (sliceI_spec sI27) rfl) rfl rfl rfl ?_
            refine wl_go rfl rfl ?_
            refine wl_v (ov_move rfl) rfl rfl rfl ?_
            refine wl_go rfl rfl ?_
            refine wl_v (ov_len (sliceI_spec sI27) rfl) rfl rfl rfl ?_
            refine wl_go rfl rfl ?_
            refine wl_if (ov_eql rfl rfl) rfl rfl rfl (fun c49 => ?_) (fun c49 => ?_)
            ·
              refine wl_go rfl rfl ?_
              refine wl_v (ov_move rfl) rfl rfl rfl ?_
              refine wl_go rfl rfl ?_
              refine wl_v (ov_move rfl) rfl rfl rfl ?_
              refine wl_go rfl rfl ?_
              refine wl_v (ov_move rfl) rfl rfl rfl ?_
              refine wl_go rfl rfl ?_
              refine wl_r (or_call (fv := []) (vs := [.slice A2_22 ((maskS m k).length) (c2_22), .slice Ab (bs.length) (cb)]) (cs := []) en52 rfl rfl (call_x1 (fun w hw => compareI_c w A2_22 ((maskS m k).length) c2_22 (maskS m k) Ab bs.length cb bs ((holds_row (List.Mem.head _)) w hw) rfl (by rw [maskS_idx]; exact (Nat.le_trans (List.length_filter_le (fun x => !(fun x : Int => decide (k / 2 ^ x.toNat % 2 = 0)) x) (idx m (-1))) h_22)) ((holds_row (List.Mem.tail _ (List.Mem.tail _ (List.Mem.head _)))) w hw) rfl hk4 (by first | assumption | omega | (simp; omega))))) rfl rfl (kt1p rfl (fun v_53 h_53 => ?_))
              refine wl_go rfl rfl ?_
              refine wl_if (ov_lss rfl rfl) rfl rfl rfl (fun c54 => ?_) (fun c54 => ?_)
              ·
                refine wl_go rfl rfl ?_
                refine wl_v (ov_pick_t rfl rfl) rfl rfl rfl ?_
                refine wl_go rfl rfl ?_
                refine wl_v (ov_pick_f rfl rfl) rfl rfl rfl ?_
                refine wl_go rfl rfl ?_
                refine wl_v (ov_pick_t rfl rfl) rfl rfl rfl ?_
                refine wl_v (ov_pick_f rfl rfl) rfl rfl rfl ?_
                refine wl_nil ?_
                refine ce_then ?_
                refine cw_true rfl ?_
                refine cw_region ?_
                refine wl_v (ov_move rfl) rfl rfl rfl ?_
                refine wl_v (ov_move rfl) rfl rfl rfl ?_
                refine wl_v (ov_assign rfl) rfl rfl rfl ?_
                refine wl_v (ov_assign rfl) rfl rfl rfl ?_
                refine wl_nil ?_
                refine ce_block ?_
                refine ce_then ?_
                refine cw_seq ?_
                refine cw_seq ?_
                refine cw_region ?_
                refine wl_v (ov_load tI3 (holds_blk (List.Mem.tail _ (List.Mem.head _))) rfl rfl) rfl rfl rfl ?_
                refine wl_nil ?_
                refine ce_then ?_
                refine cw_region ?_
                refine wl_r (or_alloc tI3 rfl) rfl rfl (kt1 rfl (fun g5x => ?_))
                refine wl_r0 (or_store_blk (vs := [.int .i64 (((k : Nat) : Int))]) (cs' := [.int .i64 (((k : Nat) : Int))]) (.head) tI3 rfl rfl rfl rfl (Nat.le_of_ble_eq_true rfl) rfl) rfl rfl (kn0 ?_)
                refine wl_nil ?_
                refine ce_then ?_
                refine cw_region ?_
                refine wl_v (ov_load tI3 (holds_blk (List.Mem.head _)) rfl rfl) rfl rfl rfl ?_
                refine wl_v (ov_add (r := ((k + 1 : Nat) : Int)) rfl rfl rfl (by omega)) rfl rfl rfl ?_
                refine wl_r0 (or_store_blk (vs := [.int .i64 (((k + 1 : Nat) : Int))]) (cs' := [.int .i64 (((k + 1 : Nat) : Int))]) (.head) tI3 rfl rfl rfl rfl (Nat.le_of_ble_eq_true rfl) rfl) rfl rfl (kn0 ?_)
                refine wl_nil ?_
                have hbt : better (scoreV m es) (maskS m k) (barTo m es (k - 1)) = true := by rw [← hk3]; exact (better_iff _).2 (.inr ⟨by omega, .inr ⟨by omega, h_53.1 c54⟩⟩)
                exact fun ac_ w_ hs_ => hR0 (k + 1) g5x A2_22 c2_22 (maskS m k) ⟨by omega, by omega, (bar_t (by omega) hbt).symm, by omega⟩ (by omega) ac_ w_ (hs_.weaken (.cons rfl (.cons rfl (.cons rfl (.cons (congrArg (fun z => some (Value.int .i64 z)) (show ((oddP m es (maskS m k)) - (((maskS m k).length : Nat) : Int)) = (scoreV m es (maskS m k)) by first | omega | rfl | (simp; done))) (.cons rfl (.nil)))))) (.cons (.head) (.cons (.head) (.cons (.tail (.tail .head)) (.nil)))))
              ·
                refine wl_go rfl rfl ?_
                refine wl_v (ov_pick_t rfl rfl) rfl rfl rfl ?_
                refine wl_go rfl rfl ?_
                refine wl_v (ov_pick_f rfl rfl) rfl rfl rfl ?_
                refine wl_go rfl rfl ?_
                refine wl_v (ov_pick_t rfl rfl) rfl rfl rfl ?_
                refine wl_v (ov_pick_f rfl rfl) rfl rfl rfl ?_
                refine wl_nil ?_
                refine ce_then ?_
                refine cw_false rfl ?_
                refine cw_skip ?_
                refine ce_block ?_
                refine ce_then ?_
                refine cw_seq ?_
                refine cw_seq ?_
                refine cw_region ?_
                refine wl_v (ov_load tI3 (holds_blk (List.Mem.tail _ (List.Mem.head _))) rfl rfl) rfl rfl rfl ?_
                refine wl_nil ?_
                refine ce_then ?_
                refine cw_region ?_
                refine wl_r (or_alloc tI3 rfl) rfl rfl (kt1 rfl (fun g5x => ?_))
                refine wl_r0 (or_store_blk (vs := [.int .i64 (((k : Nat) : Int))]) (cs' := [.int .i64 (((k : Nat) : Int))]) (.head) tI3 rfl rfl rfl rfl (Nat.le_of_ble_eq_true rfl) rfl) rfl rfl (kn0 ?_)
                refine wl_nil ?_
                refine ce_then ?_
                refine cw_region ?_
                refine wl_v (ov_load tI3 (holds_blk (List.Mem.head _)) rfl rfl) rfl rfl rfl ?_
                refine wl_v (ov_add (r := ((k + 1 : Nat) : Int)) rfl rfl rfl (by omega)) rfl rfl rfl ?_
                refine wl_r0 (or_store_blk (vs := [.int .i64 (((k + 1 : Nat) : Int))]) (cs' := [.int .i64 (((k + 1 : Nat) : Int))]) (.head) tI3 rfl rfl rfl rfl (Nat.le_of_ble_eq_true rfl) rfl) rfl rfl (kn0 ?_)
                refine wl_nil ?_
                have hbf : ¬ better (scoreV m es) (maskS m k) (barTo m es (k - 1)) = true := by rw [← hk3]; intro h9; have h8 := (better_iff _).1 h9; rcases h8 with h | ⟨h, h2 | ⟨h2, h3⟩⟩; omega; omega; exact c54 (h_53.2 h3)
                exact fun ac_ w_ hs_ => hR0 (k + 1) g5x Ab cb bs ⟨by omega, by omega, by rw [bar_f (by omega) hbf]; exact hk3, by omega⟩ (by omega) ac_ w_ (hs_.weaken (.cons rfl (.cons rfl (.cons rfl (.cons rfl (.cons rfl (.nil)))))) (.cons (.head) (.cons (.tail (.tail .head)) (.cons (.tail (.tail .head)) (.nil)))))
            ·
              refine wl_go rfl rfl ?_
              refine wl_v (ov_move rfl) rfl rfl rfl ?_
              refine wl_not rfl rfl rfl rfl rfl rfl ?_
              refine wl_not rfl rfl rfl rfl rfl rfl ?_
              refine wl_not rfl rfl rfl rfl rfl rfl ?_
              refine wl_not rfl rfl rfl rfl rfl rfl ?_
              refine wl_go rfl rfl ?_
              refine wl_v (ov_pick_f rfl rfl) rfl rfl rfl ?_
              refine wl_go rfl rfl ?_
              refine wl_v (ov_pick_f rfl rfl) rfl rfl rfl ?_
              refine wl_go rfl rfl ?_
              refine wl_v (ov_pick_t rfl rfl) rfl rfl rfl ?_
              refine wl_v (ov_pick_f rfl rfl) rfl rfl rfl ?_
              refine wl_nil ?_
              refine ce_then ?_
              refine cw_false rfl ?_
              refine cw_skip ?_
              refine ce_block ?_
              refine ce_then ?_
              refine cw_seq ?_
              refine cw_seq ?_
              refine cw_region ?_
              refine wl_v (ov_load tI3 (holds_blk (List.Mem.tail _ (List.Mem.head _))) rfl rfl) rfl rfl rfl ?_
              refine wl_nil ?_
              refine ce_then ?_
              refine cw_region ?_
              refine wl_r (or_alloc tI3 rfl) rfl rfl (kt1 rfl (fun g5x => ?_))
              refine wl_r0 (or_store_blk (vs := [.int .i64 (((k : Nat) : Int))]) (cs' := [.int .i64 (((k : Nat) : Int))]) (.head) tI3 rfl rfl rfl rfl (Nat.le_of_ble_eq_true rfl) rfl) rfl rfl (kn0 ?_)
              refine wl_nil ?_
              refine ce_then ?_
              refine cw_region ?_
              refine wl_v (ov_load tI3 (holds_blk (List.Mem.head _)) rfl rfl) rfl rfl rfl ?_
              refine wl_v (ov_add (r := ((k + 1 : Nat) : Int)) rfl rfl rfl (by omega)) rfl rfl rfl ?_
              refine wl_r0 (or_store_blk (vs := [.int .i64 (((k + 1 : Nat) : Int))]) (cs' := [.int .i64 (((k + 1 : Nat) : Int))]) (.head) tI3 rfl rfl rfl rfl (Nat.le_of_ble_eq_true rfl) rfl) rfl rfl (kn0 ?_)
              refine wl_nil ?_
              have hbf : ¬ better (scoreV m es) (maskS m k) (barTo m es (k - 1)) = true := by rw [← hk3]; intro h9; have h8 := (better_iff _).1 h9; rcases h8 with h | ⟨h, h2 | ⟨h2, _⟩⟩ <;> omega
              exact fun ac_ w_ hs_ => hR0 (k + 1) g5x Ab cb bs ⟨by omega, by omega, by rw [bar_f (by omega) hbf]; exact hk3, by omega⟩ (by omega) ac_ w_ (hs_.weaken (.cons rfl (.cons rfl (.cons rfl (.cons rfl (.cons rfl (.nil)))))) (.cons (.head) (.cons (.tail (.tail .head)) (.cons (.tail (.tail .head)) (.nil)))))
        ·
          refine wl_go rfl rfl ?_
          refine wl_v (ov_move rfl) rfl rfl rfl ?_
          refine wl_not rfl rfl rfl rfl rfl rfl ?_
          refine wl_not rfl rfl rfl rfl rfl rfl ?_
          refine wl_not rfl rfl rfl rfl rfl rfl ?_
          refine wl_not rfl rfl rfl rfl rfl rfl ?_
          refine wl_not rfl rfl rfl rfl rfl rfl ?_
          refine wl_not rfl rfl rfl rfl rfl rfl ?_
          refine wl_notu rfl rfl rfl rfl rfl ?_
          refine wl_notu rfl rfl rfl rfl rfl ?_
          refine wl_notu rfl rfl rfl rfl rfl ?_
          refine wl_notu rfl rfl rfl rfl rfl ?_
          refine wl_notu rfl rfl rfl rfl rfl ?_
          refine wl_notu rfl rfl rfl rfl rfl ?_
          refine wl_notu rfl rfl rfl rfl rfl ?_
          refine wl_notu rfl rfl rfl rfl rfl ?_
          refine wl_notu rfl rfl rfl rfl rfl ?_
          refine wl_notu rfl rfl rfl rfl rfl ?_
          refine wl_notu rfl rfl rfl rfl rfl ?_
          refine wl_not rfl rfl rfl rfl rfl rfl ?_
          refine wl_go rfl rfl ?_
          refine wl_v (ov_pick_f rfl rfl) rfl rfl rfl ?_
          refine wl_v (ov_pick_f rfl rfl) rfl rfl rfl ?_
          refine wl_nil ?_
          refine ce_then ?_
          refine cw_false rfl ?_
          refine cw_skip ?_
          refine ce_block ?_
          refine ce_then ?_
          refine cw_seq ?_
          refine cw_seq ?_
          refine cw_region ?_
          refine wl_v (ov_load tI3 (holds_blk (List.Mem.tail _ (List.Mem.head _))) rfl rfl) rfl rfl rfl ?_
          refine wl_nil ?_
          refine ce_then ?_
          refine cw_region ?_
          refine wl_r (or_alloc tI3 rfl) rfl rfl (kt1 rfl (fun g5x => ?_))
          refine wl_r0 (or_store_blk (vs := [.int .i64 (((k : Nat) : Int))]) (cs' := [.int .i64 (((k : Nat) : Int))]) (.head) tI3 rfl rfl rfl rfl (Nat.le_of_ble_eq_true rfl) rfl) rfl rfl (kn0 ?_)
          refine wl_nil ?_
          refine ce_then ?_
          refine cw_region ?_
          refine wl_v (ov_load tI3 (holds_blk (List.Mem.head _)) rfl rfl) rfl rfl rfl ?_
          refine wl_v (ov_add (r := ((k + 1 : Nat) : Int)) rfl rfl rfl (by omega)) rfl rfl rfl ?_
          refine wl_r0 (or_store_blk (vs := [.int .i64 (((k + 1 : Nat) : Int))]) (cs' := [.int .i64 (((k + 1 : Nat) : Int))]) (.head) tI3 rfl rfl rfl rfl (Nat.le_of_ble_eq_true rfl) rfl) rfl rfl (kn0 ?_)
          refine wl_nil ?_
          have hbf : ¬ better (scoreV m es) (maskS m k) (barTo m es (k - 1)) = true := by rw [← hk3]; intro h9; have h8 := (better_iff _).1 h9; rcases h8 with h | ⟨h, _⟩ <;> omega
          exact fun ac_ w_ hs_ => hR0 (k + 1) g5x Ab cb bs ⟨by omega, by omega, by rw [bar_f (by omega) hbf]; exact hk3, by omega⟩ (by omega) ac_ w_ (hs_.weaken (.cons rfl (.cons rfl (.cons rfl (.cons rfl (.cons rfl (.nil)))))) (.cons (.head) (.cons (.tail (.tail .head)) (.cons (.tail (.tail .head)) (.nil)))))
    ·
      refine wg_done (by kernel_rfl) ?_
      refine ce_then ?_
      refine cw_false rfl ?_
      refine cw_exit ?_
      refine ce_then_exit ?_
      refine ce_then_exit ?_
      refine ce_hit ?_
      refine ce_then ?_
      refine cw_seq ?_
      refine cw_region ?_
      refine wl_v (ov_move rfl) rfl rfl rfl ?_
      refine wl_r (or_call (fv := []) (vs := [.slice Ab (bs.length) (cb)]) (cs := []) en53 rfl rfl (call_x2 (fun w hw => cloneC_c w Ab bs.length cb bs ((holds_row (List.Mem.tail _ (List.Mem.head _))) w hw) rfl hk4 (by omega)))) rfl rfl (kt2p rfl (fun A2_63 c2_63 h_63 => ?_))
      refine wl_v (ov_assign rfl) rfl rfl rfl ?_
      refine wl_nil ?_
      refine ce_then ?_
      refine cw_ret ?_
      refine ce_results (v := .slice A2_63 (bs.length) (bs.length)) (res1 rfl (rv_t rfl)) (fun w' hw => ?_)
      exact ⟨A2_63, (barV ((m : Nat) : Int) es).length, c2_63, (Nat.le_refl _), (by rw [hv, show 2 ^ m - 1 = k - 1 from by omega, ← hk3]), ((.consE (show row 3 1 A2_63 (bs.length) (c2_63) (cells fI bs) = row 3 1 A2_63 ((barV ((m : Nat) : Int) es).length) (c2_63) (cells fI (barV ((m : Nat) : Int) es)) by rw [hv, show 2 ^ m - 1 = k - 1 from by omega, ← hk3]) (.head) (.nil) : Keep _ _).ss hw).to_new⟩
  ·
    have hv : barV N es = [] := if_neg c9
    refine ct_none fI 3 1 ?_
    refine wl_v (ov_not rfl) rfl rfl rfl ?_
    refine wl_nil ?_
    refine ce_then ?_
    refine cw_true rfl ?_
    refine cw_seq ?_
    refine cw_region ?_
    refine wl_v (ov_assign rfl) rfl rfl rfl ?_
    refine wl_nil ?_
    refine ce_then ?_
    refine cw_ret ?_
    refine ce_then_ret ?_
    refine ce_results (v := .slice none (0) (0)) (res1 rfl (rv_t rfl)) (fun w' hw => ?_)
    exact ⟨none, 0, 0, (by rw [hv]; exact Nat.le_refl _), (by rw [hv] <;> rfl), ((.consE (show row 3 1 none (0) (0) (cells fI ([])) = row 3 1 none ((barV N es).length) (0) (cells fI (barV N es)) by rw [hv] <;> rfl) (.head) (.nil) : Keep _ _).ss hw).to_new⟩
set_option maxRecDepth 100000 in
theorem sets_c (w : World) (A : Option Addr) (n : Nat) (c : Nat) (xs : List (Int)) (f : Nat) (m : Nat) (hA : At w A (cells fI xs)) (eA : xs.length = n) (lA : n ≤ c) (hm : f ≤ m ∧ m ≤ 7 ∧ xs.length ≤ f) : Calls Try.prog 55 #[.slice A (n) (c), .int .i64 (((f : Nat) : Int)), .int .i64 (((m : Nat) : Int))] w (Ret fun rv w' => ∃ A2 c2 hs2, ((xs :: restV (m - f) xs f).length ≤ c2 ∧ True) ∧ rv = .slice A2 ((xs :: restV (m - f) xs f).length) (c2) ∧ New w w' [row 27 1 A2 ((xs :: restV (m - f) xs f).length) (c2) (cells fL hs2), nest 3 1 fI hs2 (xs :: restV (m - f) xs f)]) := by
  have oA := hA.atB
  subst eA
  refine fn_enter (args := [.slice A (xs.length) (c), .int .i64 (((f : Nat) : Int)), .int .i64 (((m : Nat) : Int))]) Try.func55 rfl Try.ntmps55 rfl (SS.start w) ?_
  refine cw_seq ?_
  refine cw_region ?_
  refine wl_v (ov_assign rfl) rfl rfl rfl ?_
  refine wl_nil ?_
  refine ce_then ?_
  refine cw_seq ?_
  refine ct_nest0 3 1 fI ?_
  refine cw_region ?_
  refine wl_v (ov_move rfl) rfl rfl rfl ?_
  refine wl_r (or_call (fv := []) (vs := [.slice A (xs.length) (c)]) (cs := []) en104 rfl rfl (call_x2 (fun w hw => copyInts_c w A xs.length c xs ((holds_old oA) w hw) rfl lA (by omega)))) rfl rfl (kt2p rfl (fun A2_10 c2_10 h_10 => ?_))
  refine wl_r (or_buildSlice (e := 27) (size := 1) (is := [0]) (vs := [.slice A2_10 (xs.length) (c2_10)]) (cs := cells fL ([(A2_10, xs.length, c2_10)])) rfl rfl rfl (by decide) (fun _ => by kernel_rfl)) rfl rfl (kt1 rfl (fun g11 => ?_))
  refine ct_push (k := c2_10) (.cons (.tail (.tail .head)) (.cons (.tail .head) (.cons (.head) (.nil)))) (rfl) (h_10) ?_
  refine wl_v (ov_assign rfl) rfl rfl rfl ?_
  refine wl_nil ?_
  refine ce_then ?_
  refine cw_seq ?_
  refine cw_seq ?_
  refine cw_region ?_
  refine wl_v (ov_move rfl) rfl rfl rfl ?_
  refine wl_v (ov_assign rfl) rfl rfl rfl ?_
  refine wl_nil ?_
  refine ce_then ?_
  refine cw_block ?_
  refine cw_loop5 (fun (v : Nat) (A3 : Option Addr) (c3 : Nat) (hs3 : List Hd) (yss : List (List Int)) => [(0, .slice A (xs.length) (c)), (2, .int .i64 (((m : Nat) : Int))), (6, .slice none (0) (0)), (7, .slice A3 (yss.length) (c3)), (8, .int .i64 (((v : Nat) : Int)))]) (fun (v : Nat) (A3 : Option Addr) (c3 : Nat) (hs3 : List Hd) (yss : List (List Int)) => [nest 3 1 fI hs3 yss, row 27 1 A3 (yss.length) (c3) (cells fL hs3)]) (fun (v : Nat) (A3 : Option Addr) (c3 : Nat) (hs3 : List Hd) (yss : List (List Int)) => f ≤ v ∧ v ≤ m ∧ yss.length ≤ c3 ∧ yss ++ restV (m - v) xs v = xs :: restV (m - f) xs f) (fun (v : Nat) (A3 : Option Addr) (c3 : Nat) (hs3 : List Hd) (yss : List (List Int)) => m - v) f (some ⟨g11, 0, none⟩) 1 ([(A2_10, xs.length, c2_10)]) ([xs]) ⟨by omega, by omega, Nat.le_refl _, rfl⟩ (.cons rfl (.cons rfl (.cons rfl (.cons (congrArg (fun z => some (Value.slice (some ⟨g11, 0, none⟩) z 1)) (show 1 = (([xs]).length) from rfl)) (.cons rfl (.nil)))))) (.consE (show nest 3 1 fI ([] ++ [(A2_10, xs.length, c2_10)]) ([] ++ [xs]) = nest 3 1 fI ([(A2_10, xs.length, c2_10)]) ([xs]) by rfl) (.head) (.consE (show row 27 1 (some ⟨g11, 0, none⟩) (1) (1) (cells fL ([(A2_10, xs.length, c2_10)])) = row 27 1 (some ⟨g11, 0, none⟩) (([xs]).length) (1) (cells fL ([(A2_10, xs.length, c2_10)])) by rfl) (.head) (.nil))) ?_
  intro R0 v A3 c3 hs3 yss hk hR0
  obtain ⟨hk1, hk2, hk3, hk4⟩ := hk
  have hyl : yss.length ≤ 128 := by
    have h9 := congrArg List.length hk4
    rw [List.length_append, List.length_cons] at h9
    have h8 := restV_bd (d := m - f) (by omega) xs f
    omega
  refine cw_seq ?_
  refine cw_seq ?_
  refine cw_region ?_
  refine wl_v (ov_move rfl) rfl rfl rfl ?_
  refine wl_v (ov_move rfl) rfl rfl rfl ?_
  refine wl_if (ov_lss rfl rfl) rfl rfl rfl (fun c15 => ?_) (fun c15 => ?_)
  ·
    refine wl_nil ?_
    refine ce_then ?_
    refine cw_true rfl ?_
    refine cw_skip ?_
    refine ce_then ?_
    refine cw_seq ?_
    refine cw_block ?_
    refine cw_region ?_
    refine wl_v (ov_move rfl) rfl rfl rfl ?_
    refine wl_v (ov_move rfl) rfl rfl rfl ?_
    refine wl_r (or_call (fv := []) (vs := [.slice A (xs.length) (c)]) (cs := []) en104 rfl rfl (call_x2 (fun w hw => copyInts_c w A xs.length c xs ((holds_old oA) w hw) rfl lA (by omega)))) rfl rfl (kt2p rfl (fun A2_20 c2_20 h_20 => ?_))
    refine wl_v (ov_move rfl) rfl rfl rfl ?_
    refine wl_r (or_buildSlice (e := 3) (size := 1) (is := [0]) (vs := [.int .i64 (((v : Nat) : Int))]) (cs := cells fI ([((v : Nat) : Int)])) rfl rfl rfl (by decide) (fun _ => by kernel_rfl)) rfl rfl (kt1 rfl (fun g22 => ?_))
    refine wl_r (or_append (c2 := 1) sI27 tI3 rfl (by decide) rfl rfl (.tail .head) (holds_row (List.Mem.head _)) ((by rw [cells_length fI_len]; rfl)) (one_cells fI_one _) cells_append (by omega) (by omega)) rfl rfl (kt2p rfl (fun A23 c23 h23 => ?_))
    refine wl_v (ov_move rfl) rfl rfl rfl ?_
    refine wl_v (ov_add (r := ((v + 1 : Nat) : Int)) rfl rfl rfl (by omega)) rfl rfl rfl ?_
    refine wl_v (ov_move rfl) rfl rfl rfl ?_
    refine wl_r (or_call (fv := []) (vs := [.slice A23 (xs.length + 1) (c23), .int .i64 (((v + 1 : Nat) : Int)), .int .i64 (((m : Nat) : Int))]) (cs := []) en55 rfl rfl (call_x3 (fun w hw => sets_c w A23 (xs.length + 1) c23 (xs ++ ([((v : Nat) : Int)])) (v + 1) m ((holds_row (List.Mem.head _)) w hw) (by rw [List.length_append]; rfl) h23 (by rw [List.length_append]; simp only [List.length_cons, List.length_nil]; omega)))) rfl rfl (kt3p rfl (fun A2_27 c2_27 hs2_27 h_27 => ?_))
    refine ct_fact (nest_facts (List.Mem.tail _ (List.Mem.head _))) (fun hnf9 => ?_)
    have hnfns_27 := hnf9.1
    have hnl : (yss ++ ((xs ++ [((v : Nat) : Int)]) :: restV (m - (v + 1)) (xs ++ [((v : Nat) : Int)]) (v + 1))).length = yss.length + ((xs ++ [((v : Nat) : Int)]) :: restV (m - (v + 1)) (xs ++ [((v : Nat) : Int)]) (v + 1)).length := List.length_append
    have hrb := restV_bd (d := m - (v + 1)) (by omega) (xs ++ [((v : Nat) : Int)]) (v + 1)
    have hzl : ((xs ++ [((v : Nat) : Int)]) :: restV (m - (v + 1)) (xs ++ [((v : Nat) : Int)]) (v + 1)).length = (restV (m - (v + 1)) (xs ++ [((v : Nat) : Int)]) (v + 1)).length + 1 := rfl
    refine wl_r (or_append (c2 := c2_27) sI50 tI27 rfl (by decide) rfl rfl (.tail (.tail (.tail (.tail (.tail .head))))) (holds_row (List.Mem.head _)) ((by rw [cells_length fL_len]; omega)) (one_cells fL_one _) cells_append (by omega) (by omega)) rfl rfl (kt2p rfl (fun A28 c28 h28 => ?_))
    refine ct_nestapp (.cons (.tail (.tail (.tail (.tail (.tail .head))))) (.cons (.tail (.tail .head)) (.cons (.head) (.cons (.head) (.cons (.head) (.cons (.head) (.nil))))))) ?_
    refine wl_v (ov_assign rfl) rfl rfl rfl ?_
    refine wl_nil ?_
    refine ce_block ?_
    refine ce_then ?_
    refine cw_region ?_
    refine wl_v (ov_move rfl) rfl rfl rfl ?_
    refine wl_v (ov_add (r := ((v + 1 : Nat) : Int)) rfl rfl rfl (by omega)) rfl rfl rfl ?_
    refine wl_v (ov_assign rfl) rfl rfl rfl ?_
    refine wl_nil ?_
    exact fun ac_ w_ hs_ => hR0 (v + 1) A28 c28 (hs3 ++ hs2_27) (yss ++ ((xs ++ [((v : Nat) : Int)]) :: restV (m - (v + 1)) (xs ++ [((v : Nat) : Int)]) (v + 1))) ⟨by omega, by omega, by rw [hnl]; exact h28, by rw [List.append_assoc, ← restV_step xs (by omega)]; exact hk4⟩ (by omega) ac_ w_ (hs_.weaken (.cons rfl (.cons rfl (.cons rfl (.cons (congrArg (fun z => some (Value.slice A28 z c28)) (show (yss.length + (((xs ++ ([((v : Nat) : Int)])) :: restV (m - (v + 1)) (xs ++ ([((v : Nat) : Int)])) (v + 1)).length)) = ((yss ++ ((xs ++ [((v : Nat) : Int)]) :: restV (m - (v + 1)) (xs ++ [((v : Nat) : Int)]) (v + 1))).length) from (by rw [hnl]))) (.cons rfl (.nil)))))) (.cons (.head) (.consE (show row 27 1 A28 (yss.length + (((xs ++ ([((v : Nat) : Int)])) :: restV (m - (v + 1)) (xs ++ ([((v : Nat) : Int)])) (v + 1)).length)) (c28) (cells fL (hs3 ++ hs2_27)) = row 27 1 A28 ((yss ++ ((xs ++ [((v : Nat) : Int)]) :: restV (m - (v + 1)) (xs ++ [((v : Nat) : Int)]) (v + 1))).length) (c28) (cells fL (hs3 ++ hs2_27)) by rw [hnl]) (.head) (.nil))))
  ·
    have hz : yss = xs :: restV (m - f) xs f := by
      have h9 := hk4
      rw [show m - v = 0 from by omega, restV, List.append_nil] at h9
      exact h9
    refine wl_nil ?_
    refine ce_then ?_
    refine cw_false rfl ?_
    refine cw_exit ?_
    refine ce_then_exit ?_
    refine ce_then_exit ?_
    refine ce_hit ?_
    refine ce_then ?_
    refine cw_seq ?_
    refine cw_region ?_
    refine wl_v (ov_move rfl) rfl rfl rfl ?_
    refine wl_v (ov_assign rfl) rfl rfl rfl ?_
    refine wl_nil ?_
    refine ce_then ?_
    refine cw_ret ?_
    refine ce_results (v := .slice A3 (yss.length) (c3)) (res1 rfl (rv_t rfl)) (fun w' hw => ?_)
    exact ⟨A3, c3, hs3, ⟨by rw [← hz]; exact hk3, trivial⟩, (by rw [← hz]), ((.consE (show row 27 1 A3 (yss.length) (c3) (cells fL hs3) = row 27 1 A3 ((xs :: restV (m - f) xs f).length) (c3) (cells fL hs3) by rw [← hz]) (.tail .head) (.consE (show nest 3 1 fI hs3 yss = nest 3 1 fI hs3 (xs :: restV (m - f) xs f) by rw [← hz]) (.head) (.nil)) : Keep _ _).ss hw).to_new⟩
termination_by m - f
decreasing_by all_goals omega
set_option maxRecDepth 100000 in
theorem BarS_c (w : World) (N : Int) (A : Option Addr) (n : Nat) (c : Nat) (es : List (Int × Int)) (hA : At w A (cells fE es)) (eA : es.length = n) (lA : n ≤ c) (hs : es.length ≤ 1048576) (hN : N ≤ 9223372036854775807) : Calls Try.prog 12 #[.agg #[.int .i64 (N), .slice A (n) (c)]] w (Ret fun rv w' => ∃ A2 k2 hs9 xss9 i0, ((barV N es).length ≤ k2 ∧ (barV N es = [] ∨ (i0 < (xss9).length ∧ barV N es = (xss9).getD i0 [] ∧ A2 = ((hs9).getD i0 (none, 0, 0)).1))) ∧ rv = .slice A2 ((barV N es).length) (k2) ∧ New w w' [nest 3 1 fI hs9 xss9]) := by
  have oA := hA.atB
  subst eA
  refine fn_enter (args := [.agg #[.int .i64 (N), .slice A (es.length) (c)]]) Try.func12 rfl Try.ntmps12 rfl (SS.start w) ?_
  refine cw_seq ?_
  refine cw_region ?_
  refine wl_r (or_box rfl rfl) rfl rfl (kt1 rfl (fun g1 => ?_))
  refine wl_v (ov_assign rfl) rfl rfl rfl ?_
  refine wl_nil ?_
  refine ce_then ?_
  refine cw_seq ?_
  refine cw_seq ?_
  refine cw_region ?_
  refine wl_v (ov_loadAgg (vs := [.int .i64 (N), .slice A (es.length) (c)]) tI25 (holds_blk (List.Mem.head _)) rfl some_lit rfl rfl) rfl rfl rfl ?_
  refine wl_r (or_call (fv := []) (vs := [.agg #[.int .i64 (N), .slice A (es.length) (c)]]) (cs := []) en54 rfl rfl (call_v (fun w hw => validGraphS_c w N A es.length c es ((holds_old oA) w hw) rfl lA (by first | assumption | omega | (simp; omega))))) rfl rfl (kt_if rfl (fun c9 => ?_) (fun c9 => ?_))
  ·
    refine wl_v (ov_not rfl) rfl rfl rfl ?_
    refine wl_nil ?_
    refine ce_then ?_
    refine cw_false rfl ?_
    refine cw_skip ?_
    refine ce_then ?_
    refine cw_seq ?_
    obtain ⟨m, rfl⟩ := Int.eq_ofNat_of_zero_le (show 0 ≤ N from c9.2.1)
    have hg : Gr m es := by have h9 := c9.gr; rwa [Int.toNat_natCast] at h9
    have hm : m ≤ 7 := by have h9 := c9.2.2; omega
    have hel := hg.len (by omega)
    have hv : barV ((m : Nat) : Int) es = barTo m es (2 ^ m - 1) := (if_pos c9).trans (by rw [Int.toNat_natCast])
    refine cw_region ?_
    refine wl_r (or_buildSlice (e := 3) (size := 1) (is := []) (vs := []) (cs := cells fI ([])) rfl rfl rfl (by decide) (fun _ => by kernel_rfl)) rfl rfl (kt1 rfl (fun g11 => ?_))
    refine wl_v (ov_assign rfl) rfl rfl rfl ?_
    refine wl_nil ?_
    refine ce_then ?_
    refine cw_seq ?_
    refine cw_region ?_
    refine wl_r (or_buildSlice (e := 3) (size := 1) (is := []) (vs := []) (cs := cells fI ([])) rfl rfl rfl (by decide) (fun _ => by kernel_rfl)) rfl rfl (kt1 rfl (fun g12 => ?_))
    refine wl_v (ov_fieldAddr fI25_0 some_lit rfl) rfl rfl rfl ?_
    refine wl_v (ov_load tI3 (holds_blk (List.Mem.tail _ (List.Mem.tail _ (List.Mem.head _)))) rfl rfl) rfl rfl rfl ?_
    refine wl_r (or_call (fv := []) (vs := [.slice (some ⟨g12, 0, none⟩) (0) (0), .int .i64 (0), .int .i64 (((m : Nat) : Int))]) (cs := []) en55 rfl rfl (call_x3 (fun w hw => sets_c w (some ⟨g12, 0, none⟩) 0 0 ([]) 0 m ((holds_row (List.Mem.head _)) w hw) (by first | rfl | (simp; done) | (simp; omega)) (Nat.le_refl _) (by simp only [List.length_nil]; omega)))) rfl rfl (kt3p rfl (fun A2_15 c2_15 hs2_15 h_15 => ?_))
    refine ct_keep (L' := [(0, .agg #[.int .i64 (((m : Nat) : Int)), .slice A (es.length) (c)]), (1, elp (some ⟨g1, 0, none⟩) (0)), (2, .slice none (0) (0)), (3, .slice (some ⟨g11, 0, none⟩) (0) (0)), (8, .agg #[.int .i64 (((m : Nat) : Int)), .slice A (es.length) (c)]), (9, .bool true), (10, .bool false), (11, .slice (some ⟨g11, 0, none⟩) (0) (0)), (12, .slice (some ⟨g12, 0, none⟩) (0) (0)), (13, elp (some ⟨g1, 0, none⟩) (0)), (14, .int .i64 (((m : Nat) : Int))), (15, .slice A2_15 ((([]) :: restV (m - 0) ([]) 0).length) (c2_15))]) (.cons rfl (.cons rfl (.cons rfl (.cons rfl (.cons rfl (.cons rfl (.cons rfl (.cons rfl (.cons rfl (.cons rfl (.cons rfl (.cons rfl (.nil))))))))))))) (.consE (show row 27 1 A2_15 ((([]) :: restV (m - 0) ([]) 0).length) (c2_15) (cells fL hs2_15) = row 27 1 A2_15 ((setsV m).length) (c2_15) (cells fL hs2_15) by rfl) (.head) (.cons (.head) (.cons (.head) (.cons (.head) (.cons (.head) (.nil)))))) ?_
    refine ct_keep (L' := [(0, .agg #[.int .i64 (((m : Nat) : Int)), .slice A (es.length) (c)]), (1, elp (some ⟨g1, 0, none⟩) (0)), (2, .slice none (0) (0)), (3, .slice (some ⟨g11, 0, none⟩) (0) (0)), (8, .agg #[.int .i64 (((m : Nat) : Int)), .slice A (es.length) (c)]), (9, .bool true), (10, .bool false), (11, .slice (some ⟨g11, 0, none⟩) (0) (0)), (12, .slice (some ⟨g12, 0, none⟩) (0) (0)), (13, elp (some ⟨g1, 0, none⟩) (0)), (14, .int .i64 (((m : Nat) : Int))), (15, .slice A2_15 ((([]) :: restV (m - 0) ([]) 0).length) (c2_15))]) (.cons rfl (.cons rfl (.cons rfl (.cons rfl (.cons rfl (.cons rfl (.cons rfl (.cons rfl (.cons rfl (.cons rfl (.cons rfl (.cons rfl (.nil))))))))))))) (.cons (.head) (.consE (show nest 3 1 fI hs2_15 (([]) :: restV (m - 0) ([]) 0) = nest 3 1 fI hs2_15 (setsV m) by rfl) (.head) (.cons (.head) (.cons (.head) (.cons (.head) (.nil)))))) ?_
    refine ct_keep (L' := [(0, .agg #[.int .i64 (((m : Nat) : Int)), .slice A (es.length) (c)]), (1, elp (some ⟨g1, 0, none⟩) (0)), (2, .slice none (0) (0)), (3, .slice (some ⟨g11, 0, none⟩) (0) (0)), (8, .agg #[.int .i64 (((m : Nat) : Int)), .slice A (es.length) (c)]), (9, .bool true), (10, .bool false), (11, .slice (some ⟨g11, 0, none⟩) (0) (0)), (12, .slice (some ⟨g12, 0, none⟩) (0) (0)), (13, elp (some ⟨g1, 0, none⟩) (0)), (14, .int .i64 (((m : Nat) : Int))), (15, .slice A2_15 ((setsV m).length) (c2_15))]) (.cons rfl (.cons rfl (.cons rfl (.cons rfl (.cons rfl (.cons rfl (.cons rfl (.cons rfl (.cons rfl (.cons rfl (.cons rfl (.cons (congrArg (fun z => some (Value.slice A2_15 z c2_15)) (show ((([]) :: restV (m - 0) ([]) 0).length) = ((setsV m).length) from rfl)) (.nil))))))))))))) .refl ?_
    refine ct_fact (nest_facts (List.Mem.tail _ (List.Mem.head _))) (fun hnfns_15_1 => ?_)
    have hnfns_15_1l := hnfns_15_1.1
    have hnf9 := hnfns_15_1
    have hsb := setsV_bd hm
    refine wl_v (ov_assign rfl) rfl rfl rfl ?_
    refine wl_nil ?_
    refine ce_then ?_
    refine cw_seq ?_
    refine cw_seq ?_
    refine cw_region ?_
    refine wl_v (ov_assign rfl) rfl rfl rfl ?_
    refine wl_nil ?_
    refine ce_then ?_
    refine cw_block ?_
    refine cw_loop5 (fun (k : Nat) (i0 : Nat) (Ab : Option Addr) (cb : Nat) (bs : List Int) => [(1, elp (some ⟨g1, 0, none⟩) (0)), (2, .slice none (0) (0)), (4, .slice A2_15 ((setsV m).length) (c2_15)), (3, .slice Ab (bs.length) (cb)), (5, .int .i64 (((k : Nat) : Int)))]) (fun (k : Nat) (i0 : Nat) (Ab : Option Addr) (cb : Nat) (bs : List Int) => [row 27 1 A2_15 ((setsV m).length) (c2_15) (cells fL hs2_15), nest 3 1 fI hs2_15 (setsV m), row 3 1 (some ⟨g12, 0, none⟩) (0) (0) (cells fI ([])), row 3 1 (some ⟨g11, 0, none⟩) (0) (0) (cells fI ([])), blk g1 [.int .i64 (((m : Nat) : Int)), .slice A (es.length) (c)] 25]) (fun (k : Nat) (i0 : Nat) (Ab : Option Addr) (cb : Nat) (bs : List Int) => k ≤ (setsV m).length ∧ bs.length ≤ cb ∧ bs = sBest m es k ∧ (bs = [] ∨ (i0 < (setsV m).length ∧ bs = (setsV m).getD i0 [] ∧ Ab = ((hs2_15).getD i0 (none, 0, 0)).1))) (fun (k : Nat) (i0 : Nat) (Ab : Option Addr) (cb : Nat) (bs : List Int) => (setsV m).length - k) 0 0 (some ⟨g11, 0, none⟩) 0 ([]) ⟨by omega, Nat.le_refl _, rfl, .inl rfl⟩ (.cons rfl (.cons rfl (.cons rfl (.cons (congrArg (fun z => some (Value.slice (some ⟨g11, 0, none⟩) z 0)) (show 0 = (([]).length) from rfl)) (.cons (congrArg (fun z => some (Value.int .i64 z)) (show 0 = ((0 : Nat) : Int) by first | omega | rfl | (simp; done))) (.nil)))))) (.cons (.head) (.cons (.head) (.cons (.head) (.cons (.head) (.cons (.head) (.nil)))))) ?_
    intro R0 k i0 Ab cb bs hk hR0
    obtain ⟨hk1, hk2, hk3, hpk⟩ := hk
    refine cw_seq ?_
    refine cw_seq ?_
    refine cw_region ?_
    refine wl_v (ov_move rfl) rfl rfl rfl ?_
    refine wl_v (ov_move rfl) rfl rfl rfl ?_
    refine wl_v (ov_len (sliceI_spec sI50) rfl) rfl rfl rfl ?_
    refine wl_if (ov_lss rfl rfl) rfl rfl rfl (fun c19 => ?_) (fun c19 => ?_)
    ·
      have hss := setsV_small m hm _ (getD_mem (xs := setsV m) (k := k) [] (by omega))
      have hbs : bs.length ≤ 7 := by
        rcases hpk with h1 | ⟨h1, h2, _⟩
        · rw [h1]; exact Nat.zero_le _
        · rw [h2]; exact setsV_small m hm _ (getD_mem [] h1)
      have hob := oddP_bd (n := m) (es := es) (s := ((setsV m).getD k []))
      have hob2 := oddP_bd (n := m) (es := es) (s := bs)
      have hsc : scoreV m es bs = oddP m es bs - bs.length := rfl
      have hsc2 : scoreV m es ((setsV m).getD k []) = oddP m es ((setsV m).getD k []) - ((setsV m).getD k []).length := rfl
      refine wl_nil ?_
      refine ce_then ?_
      refine cw_true rfl ?_
      refine cw_skip ?_
      refine ce_then ?_
      refine cw_seq ?_
      refine cw_block ?_
      refine cw_seq ?_
      refine cw_draw mixO [] (.cons (.head) (.cons (.head) (.cons (.head) (.cons (.head) (.cons (.head) (.nil)))))) rfl ?_
      refine wg_take (i := 0) rfl (ov_loadAgg (vs := [.int .i64 (((m : Nat) : Int)), .slice A (es.length) (c)]) tI25 (holds_blk (List.Mem.tail _ (List.Mem.tail _ (List.Mem.tail _ (List.Mem.tail _ (List.Mem.head _)))))) rfl some_lit rfl rfl) rfl rfl rfl (by kernel_rfl) (by kernel_rfl) (by kernel_rfl) (by kernel_rfl) ?_
      refine wg_takep (i := 1) rfl (ov_move rfl) rfl rfl rfl (by kernel_rfl) (by kernel_rfl) (by kernel_rfl) rfl ?_
      refine wg_takep (i := 2) rfl (ov_move rfl) rfl rfl rfl (by kernel_rfl) (by kernel_rfl) (by kernel_rfl) rfl ?_
      refine stg_fact (nest_facts (List.Mem.tail _ (List.Mem.head _))) (fun hnf25 => ?_)
      have hnl25 := hnf25.1
      refine wg_take (i := 3) rfl (ov_index (k := k) (c := c2_15) sI50 tI27 rfl rfl (some_holds (q := k * 1) (holds_row (List.Mem.head _)) (by rw [cells_length fL_len]; have hlt : k < hs2_15.length := (by omega); omega)) (show k < (setsV m).length from (by omega))) rfl rfl rfl (by kernel_rfl) (by kernel_rfl) (by kernel_rfl) (by kernel_rfl) ?_
      refine wg_take (i := 4) rfl (ov_load tI27 (holds_row (List.Mem.head _)) rfl (get_fLn hnf25 (show k < (setsV m).length from (by omega)))) rfl rfl rfl (by kernel_rfl) (by kernel_rfl) (by kernel_rfl) (by kernel_rfl) ?_
      refine wg_takep (i := 6) rfl (ov_move rfl) rfl rfl rfl (by kernel_rfl) (by kernel_rfl) (by kernel_rfl) rfl ?_
      refine wg_takep (i := 7) rfl (ov_move rfl) rfl rfl rfl (by kernel_rfl) (by kernel_rfl) (by kernel_rfl) rfl ?_
      refine stg_fact (nest_facts (List.Mem.tail _ (List.Mem.head _))) (fun hnf30 => ?_)
      have hnl30 := hnf30.1
      refine wg_take (i := 8) rfl (ov_index (k := k) (c := c2_15) sI50 tI27 rfl rfl (some_holds (q := k * 1) (holds_row (List.Mem.head _)) (by rw [cells_length fL_len]; have hlt : k < hs2_15.length := (by omega); omega)) (show k < (setsV m).length from (by omega))) rfl rfl rfl (by kernel_rfl) (by kernel_rfl) (by kernel_rfl) (by kernel_rfl) ?_
      refine wg_take (i := 9) rfl (ov_load tI27 (holds_row (List.Mem.head _)) rfl (get_fLn hnf30 (show k < (setsV m).length from (by omega)))) rfl rfl rfl (by kernel_rfl) (by kernel_rfl) (by kernel_rfl) (by kernel_rfl) ?_
      refine wg_takep (i := 10) rfl (ov_len (sliceI_spec sI27) rfl) rfl rfl rfl (by kernel_rfl) (by kernel_rfl) (by kernel_rfl) rfl ?_
      refine wg_one (i := 5) (by kernel_rfl) ?_
      refine go_r rfl rfl rfl rfl (or_call (fv := []) (vs := [.agg #[.int .i64 (((m : Nat) : Int)), .slice A (es.length) (c)], .slice ((hs2_15.getD k (none, 0, 0)).1) (((setsV m).getD k []).length) ((hs2_15.getD k (none, 0, 0)).2.2)]) (cs := []) en56 rfl rfl (call_v (fun w hw => oddPartsS_c w m A es.length c es ((hs2_15.getD k (none, 0, 0)).1) (((setsV m).getD k []).length) ((hs2_15.getD k (none, 0, 0)).2.2) ((setsV m).getD k []) ((holds_old oA) w hw) rfl lA ((holds_nest (List.Mem.tail _ (List.Mem.head _)) (show k < (setsV m).length from (by omega))) w hw) rfl (hnf25.2 k (show k < (setsV m).length from (by omega))).2 (by first | assumption | omega | (simp; omega)) (by first | assumption | omega | (simp; omega)) (by omega)))) (kt0 rfl ?_)
      refine gk (.cons (.head) (.cons (.head) (.cons (.head) (.cons (.head) (.cons (.head) (.nil)))))) ?_
      refine wg_takep (i := 11) rfl (ov_sub (r := (oddP m es ((setsV m).getD k [])) - ((((setsV m).getD k []).length : Nat) : Int)) rfl rfl rfl (by omega)) rfl rfl rfl (by kernel_rfl) (by kernel_rfl) (by kernel_rfl) rfl ?_
      refine wg_takep (i := 12) rfl (ov_assign rfl) rfl rfl rfl (by kernel_rfl) (by kernel_rfl) (by kernel_rfl) rfl ?_
      refine wg_done (by kernel_rfl) ?_
      refine ce_then ?_
      refine cw_seq ?_
      refine cw_region ?_
      refine wl_v (ov_loadAgg (vs := [.int .i64 (((m : Nat) : Int)), .slice A (es.length) (c)]) tI25 (holds_blk (List.Mem.tail _ (List.Mem.tail _ (List.Mem.tail _ (List.Mem.tail _ (List.Mem.head _)))))) rfl some_lit rfl rfl) rfl rfl rfl ?_
      refine wl_v (ov_move rfl) rfl rfl rfl ?_
      refine wl_r (or_call (fv := []) (vs := [.agg #[.int .i64 (((m : Nat) : Int)), .slice A (es.length) (c)], .slice Ab (bs.length) (cb)]) (cs := []) en56 rfl rfl (call_v (fun w hw => oddPartsS_c w m A es.length c es Ab bs.length cb bs ((holds_old oA) w hw) rfl lA ((holds_pick (List.Mem.tail _ (List.Mem.head _)) hpk) w hw) rfl hk2 (by first | assumption | omega | (simp; omega)) (by first | assumption | omega | (simp; omega)) (by omega)))) rfl rfl (kt0 rfl ?_)
      refine wl_v (ov_move rfl) rfl rfl rfl ?_
      refine wl_v (ov_len (sliceI_spec sI27) rfl) rfl rfl rfl ?_
      refine wl_v (ov_sub (r := (oddP m es bs) - ((bs.length : Nat) : Int)) rfl rfl rfl (by omega)) rfl rfl rfl ?_
      refine wl_v (ov_assign rfl) rfl rfl rfl ?_
      refine wl_nil ?_
      refine ce_then ?_
      refine cw_seq ?_
      refine cw_region ?_
      refine wl_v (ov_move rfl) rfl rfl rfl ?_
      refine wl_v (ov_move rfl) rfl rfl rfl ?_
      refine wl_if (ov_gtr rfl rfl) rfl rfl rfl (fun c42 => ?_) (fun c42 => ?_)
      ·
        refine wl_v (ov_move rfl) rfl rfl rfl ?_
        refine wl_not rfl rfl rfl rfl rfl rfl ?_
        refine wl_not rfl rfl rfl rfl rfl rfl ?_
        refine wl_not rfl rfl rfl rfl rfl rfl ?_
        refine wl_not rfl rfl rfl rfl rfl rfl ?_
        refine wl_notu rfl rfl rfl rfl rfl ?_
        refine wl_notu rfl rfl rfl rfl rfl ?_
        refine wl_notu rfl rfl rfl rfl rfl ?_
        refine wl_notu rfl rfl rfl rfl rfl ?_
        refine wl_notu rfl rfl rfl rfl rfl ?_
        refine wl_notu rfl rfl rfl rfl rfl ?_
        refine wl_notu rfl rfl rfl rfl rfl ?_
        refine wl_notu rfl rfl rfl rfl rfl ?_
        refine wl_not rfl rfl rfl rfl rfl rfl ?_
        refine wl_v (ov_pick_t rfl rfl) rfl rfl rfl ?_
        refine wl_nil ?_
        refine ce_then ?_
        refine cw_true rfl ?_
        refine cw_region ?_
        refine wl_v (ov_move rfl) rfl rfl rfl ?_
        refine wl_v (ov_move rfl) rfl rfl rfl ?_
        refine ct_fact (nest_facts (List.Mem.tail _ (List.Mem.head _))) (fun hnf60 => ?_)
        have hnl60 := hnf60.1
        refine wl_v (ov_index (k := k) (c := c2_15) sI50 tI27 rfl rfl (some_holds (q := k * 1) (holds_row (List.Mem.head _)) (by rw [cells_length fL_len]; have hlt : k < hs2_15.length := (by omega); omega)) (show k < (setsV m).length from (by omega))) rfl rfl rfl ?_
        refine wl_v (ov_load tI27 (holds_row (List.Mem.head _)) rfl (get_fLn hnf60 (show k < (setsV m).length from (by omega)))) rfl rfl rfl ?_
        refine wl_v (ov_assign rfl) rfl rfl rfl ?_
        refine wl_nil ?_
        refine ce_block ?_
        refine ce_then ?_
        refine cw_region ?_
        refine wl_v (ov_move rfl) rfl rfl rfl ?_
        refine wl_v (ov_add (r := ((k + 1 : Nat) : Int)) rfl rfl rfl (by omega)) rfl rfl rfl ?_
        refine wl_v (ov_assign rfl) rfl rfl rfl ?_
        refine wl_nil ?_
        have hbt : scoreV m es (sBest m es k) < scoreV m es ((setsV m).getD k []) ∨ (scoreV m es ((setsV m).getD k []) = scoreV m es (sBest m es k) ∧ ((setsV m).getD k []).length < (sBest m es k).length) := by rw [← hk3]; exact .inl (by omega)
        exact fun ac_ w_ hs_ => hR0 (k + 1) k ((hs2_15.getD k (none, 0, 0)).1) ((hs2_15.getD k (none, 0, 0)).2.2) ((setsV m).getD k []) ⟨by omega, (hnf9.2 k (by omega)).2, (sBest_t (by omega) hbt).symm, .inr ⟨by omega, rfl, rfl⟩⟩ (by omega) ac_ w_ (hs_.weaken (.cons rfl (.cons rfl (.cons rfl (.cons rfl (.cons rfl (.nil)))))) (.cons (.head) (.cons (.head) (.cons (.head) (.cons (.head) (.cons (.head) (.nil)))))))
      ·
        refine wl_v (ov_move rfl) rfl rfl rfl ?_
        refine wl_go rfl rfl ?_
        refine wl_v (ov_move rfl) rfl rfl rfl ?_
        refine wl_go rfl rfl ?_
        refine wl_v (ov_move rfl) rfl rfl rfl ?_
        refine wl_go rfl rfl ?_
        refine wl_if (ov_eql rfl rfl) rfl rfl rfl (fun c46 => ?_) (fun c46 => ?_)
        ·
          refine wl_go rfl rfl ?_
          refine wl_v (ov_move rfl) rfl rfl rfl ?_
          refine wl_go rfl rfl ?_
          refine wl_v (ov_move rfl) rfl rfl rfl ?_
          refine wl_go rfl rfl ?_
          refine wl_v (ov_move rfl) rfl rfl rfl ?_
          refine wl_go rfl rfl ?_
          refine ct_fact (nest_facts (List.Mem.tail _ (List.Mem.head _))) (fun hnf50 => ?_)
          have hnl50 := hnf50.1
          refine wl_v (ov_index (k := k) (c := c2_15) sI50 tI27 rfl rfl (some_holds (q := k * 1) (holds_row (List.Mem.head _)) (by rw [cells_length fL_len]; have hlt : k < hs2_15.length := (by omega); omega)) (show k < (setsV m).length from (by omega))) rfl rfl rfl ?_
          refine wl_go rfl rfl ?_
          refine wl_v (ov_load tI27 (holds_row (List.Mem.head _)) rfl (get_fLn hnf50 (show k < (setsV m).length from (by omega)))) rfl rfl rfl ?_
          refine wl_go rfl rfl ?_
          refine wl_v (ov_len (sliceI_spec sI27) rfl) rfl rfl rfl ?_
          refine wl_go rfl rfl ?_
          refine wl_v (ov_move rfl) rfl rfl rfl ?_
          refine wl_go rfl rfl ?_
          refine wl_v (ov_len (sliceI_spec sI27) rfl) rfl rfl rfl ?_
          refine wl_go rfl rfl ?_
          refine wl_if (ov_lss rfl rfl) rfl rfl rfl (fun c55 => ?_) (fun c55 => ?_)
          ·
            refine wl_go rfl rfl ?_
            refine wl_v (ov_pick_t rfl rfl) rfl rfl rfl ?_
            refine wl_v (ov_pick_f rfl rfl) rfl rfl rfl ?_
            refine wl_nil ?_
            refine ce_then ?_
            refine cw_true rfl ?_
            refine cw_region ?_
            refine wl_v (ov_move rfl) rfl rfl rfl ?_
            refine wl_v (ov_move rfl) rfl rfl rfl ?_
            refine ct_fact (nest_facts (List.Mem.tail _ (List.Mem.head _))) (fun hnf60 => ?_)
            have hnl60 := hnf60.1
            refine wl_v (ov_index (k := k) (c := c2_15) sI50 tI27 rfl rfl (some_holds (q := k * 1) (holds_row (List.Mem.head _)) (by rw [cells_length fL_len]; have hlt : k < hs2_15.length := (by omega); omega)) (show k < (setsV m).length from (by omega))) rfl rfl rfl ?_
            refine wl_v (ov_load tI27 (holds_row (List.Mem.head _)) rfl (get_fLn hnf60 (show k < (setsV m).length from (by omega)))) rfl rfl rfl ?_
            refine wl_v (ov_assign rfl) rfl rfl rfl ?_
            refine wl_nil ?_
            refine ce_block ?_
            refine ce_then ?_
            refine cw_region ?_
            refine wl_v (ov_move rfl) rfl rfl rfl ?_
            refine wl_v (ov_add (r := ((k + 1 : Nat) : Int)) rfl rfl rfl (by omega)) rfl rfl rfl ?_
            refine wl_v (ov_assign rfl) rfl rfl rfl ?_
            refine wl_nil ?_
            have hbt : scoreV m es (sBest m es k) < scoreV m es ((setsV m).getD k []) ∨ (scoreV m es ((setsV m).getD k []) = scoreV m es (sBest m es k) ∧ ((setsV m).getD k []).length < (sBest m es k).length) := by rw [← hk3]; exact .inr ⟨by omega, by omega⟩
            exact fun ac_ w_ hs_ => hR0 (k + 1) k ((hs2_15.getD k (none, 0, 0)).1) ((hs2_15.getD k (none, 0, 0)).2.2) ((setsV m).getD k []) ⟨by omega, (hnf9.2 k (by omega)).2, (sBest_t (by omega) hbt).symm, .inr ⟨by omega, rfl, rfl⟩⟩ (by omega) ac_ w_ (hs_.weaken (.cons rfl (.cons rfl (.cons rfl (.cons rfl (.cons rfl (.nil)))))) (.cons (.head) (.cons (.head) (.cons (.head) (.cons (.head) (.cons (.head) (.nil)))))))
          ·
            refine wl_go rfl rfl ?_
            refine wl_v (ov_pick_t rfl rfl) rfl rfl rfl ?_
            refine wl_v (ov_pick_f rfl rfl) rfl rfl rfl ?_
            refine wl_nil ?_
            refine ce_then ?_
            refine cw_false rfl ?_
            refine cw_skip ?_
            refine ce_block ?_
            refine ce_then ?_
            refine cw_region ?_
            refine wl_v (ov_move rfl) rfl rfl rfl ?_
            refine wl_v (ov_add (r := ((k + 1 : Nat) : Int)) rfl rfl rfl (by omega)) rfl rfl rfl ?_
            refine wl_v (ov_assign rfl) rfl rfl rfl ?_
            refine wl_nil ?_
            have hbf : ¬ (scoreV m es (sBest m es k) < scoreV m es ((setsV m).getD k []) ∨ (scoreV m es ((setsV m).getD k []) = scoreV m es (sBest m es k) ∧ ((setsV m).getD k []).length < (sBest m es k).length)) := by rw [← hk3]; intro h8; rcases h8 with h | ⟨h, h2⟩ <;> omega
            exact fun ac_ w_ hs_ => hR0 (k + 1) i0 Ab cb bs ⟨by omega, hk2, by rw [sBest_f (by omega) hbf]; exact hk3, hpk⟩ (by omega) ac_ w_ (hs_.weaken (.cons rfl (.cons rfl (.cons rfl (.cons rfl (.cons rfl (.nil)))))) (.cons (.head) (.cons (.head) (.cons (.head) (.cons (.head) (.cons (.head) (.nil)))))))
        ·
          refine wl_go rfl rfl ?_
          refine wl_v (ov_move rfl) rfl rfl rfl ?_
          refine wl_not rfl rfl rfl rfl rfl rfl ?_
          refine wl_not rfl rfl rfl rfl rfl rfl ?_
          refine wl_not rfl rfl rfl rfl rfl rfl ?_
          refine wl_not rfl rfl rfl rfl rfl rfl ?_
          refine wl_not rfl rfl rfl rfl rfl rfl ?_
          refine wl_not rfl rfl rfl rfl rfl rfl ?_
          refine wl_not rfl rfl rfl rfl rfl rfl ?_
          refine wl_not rfl rfl rfl rfl rfl rfl ?_
          refine wl_go rfl rfl ?_
          refine wl_v (ov_pick_f rfl rfl) rfl rfl rfl ?_
          refine wl_v (ov_pick_f rfl rfl) rfl rfl rfl ?_
          refine wl_nil ?_
          refine ce_then ?_
          refine cw_false rfl ?_
          refine cw_skip ?_
          refine ce_block ?_
          refine ce_then ?_
          refine cw_region ?_
          refine wl_v (ov_move rfl) rfl rfl rfl ?_
          refine wl_v (ov_add (r := ((k + 1 : Nat) : Int)) rfl rfl rfl (by omega)) rfl rfl rfl ?_
          refine wl_v (ov_assign rfl) rfl rfl rfl ?_
          refine wl_nil ?_
          have hbf : ¬ (scoreV m es (sBest m es k) < scoreV m es ((setsV m).getD k []) ∨ (scoreV m es ((setsV m).getD k []) = scoreV m es (sBest m es k) ∧ ((setsV m).getD k []).length < (sBest m es k).length)) := by rw [← hk3]; intro h8; rcases h8 with h | ⟨h, _⟩ <;> omega
          exact fun ac_ w_ hs_ => hR0 (k + 1) i0 Ab cb bs ⟨by omega, hk2, by rw [sBest_f (by omega) hbf]; exact hk3, hpk⟩ (by omega) ac_ w_ (hs_.weaken (.cons rfl (.cons rfl (.cons rfl (.cons rfl (.cons rfl (.nil)))))) (.cons (.head) (.cons (.head) (.cons (.head) (.cons (.head) (.cons (.head) (.nil)))))))
    ·
      have he : bs = barV ((m : Nat) : Int) es := by rw [hk3, sBest_all hm es (by omega), hv]
      refine wl_nil ?_
      refine ce_then ?_
      refine cw_false rfl ?_
      refine cw_exit ?_
      refine ce_then_exit ?_
      refine ce_then_exit ?_
      refine ce_hit ?_
      refine ce_then ?_
      refine cw_seq ?_
      refine cw_region ?_
      refine wl_v (ov_move rfl) rfl rfl rfl ?_
      refine wl_v (ov_assign rfl) rfl rfl rfl ?_
      refine wl_nil ?_
      refine ce_then ?_
      refine cw_ret ?_
      refine ce_results (v := .slice Ab (bs.length) (cb)) (res1 rfl (rv_t rfl)) (fun w' hw => ?_)
      exact ⟨Ab, cb, hs2_15, setsV m, i0, ⟨by rw [← he]; exact hk2, by rw [← he]; exact hpk⟩, (by rw [← he]), ((.cons (.tail .head) (.nil) : Keep _ _).ss hw).to_new⟩
  ·
    have hv : barV N es = [] := if_neg c9
    refine ct_nest0 3 1 fI ?_
    refine wl_v (ov_not rfl) rfl rfl rfl ?_
    refine wl_nil ?_
    refine ce_then ?_
    refine cw_true rfl ?_
    refine cw_seq ?_
    refine cw_region ?_
    refine wl_v (ov_assign rfl) rfl rfl rfl ?_
    refine wl_nil ?_
    refine ce_then ?_
    refine cw_ret ?_
    refine ce_then_ret ?_
    refine ce_results (v := .slice none (0) (0)) (res1 rfl (rv_t rfl)) (fun w' hw => ?_)
    exact ⟨none, 0, [], [], 0, ⟨by rw [hv]; exact Nat.le_refl _, .inl hv⟩, (by rw [hv] <;> rfl), ((.cons (.head) (.nil) : Keep _ _).ss hw).to_new⟩
set_option maxRecDepth 100000 in
theorem ascends_c (w : World) (A : Option Addr) (n : Nat) (c : Nat) (xs : List (Int)) (hA : At w A (cells fI xs)) (eA : xs.length = n) (lA : n ≤ c) (hs : xs.length ≤ 1048576) : Calls Try.prog 16 #[.slice A (n) (c)] w (Ret fun rv w' => rv = .bool (decide (AscP xs)) ∧ New w w' []) := by
  have oA := hA.atB
  subst eA
  refine fn_enter (args := [.slice A (xs.length) (c)]) Try.func16 rfl Try.ntmps16 rfl (SS.start w) ?_
  refine cw_seq ?_
  refine cw_region ?_
  refine wl_v (ov_assign rfl) rfl rfl rfl ?_
  refine wl_nil ?_
  refine ce_then ?_
  refine cw_seq ?_
  refine cw_seq ?_
  refine cw_region ?_
  refine wl_v (ov_assign rfl) rfl rfl rfl ?_
  refine wl_nil ?_
  refine ce_then ?_
  refine cw_block ?_
  refine cw_loop1 (fun (k : Nat) => [(0, .slice A (xs.length) (c)), (3, .int .i64 (((k : Nat) : Int)))]) (fun (k : Nat) => []) (fun (k : Nat) => 1 ≤ k ∧ ∀ i, 1 ≤ i → i < k → xs.getD (i - 1) 0 < xs.getD i 0) (fun (k : Nat) => xs.length - k) 1 ⟨by omega, fun i h1 h2 => by omega⟩ (.cons rfl (.cons (congrArg (fun z => some (Value.int .i64 z)) (show 1 = ((1 : Nat) : Int) by first | omega | rfl | (simp; done))) (.nil))) (.nil) ?_
  intro R0 k hk hR0
  obtain ⟨hk1, hk2⟩ := hk
  refine cw_seq ?_
  refine cw_seq ?_
  refine cw_region ?_
  refine wl_v (ov_move rfl) rfl rfl rfl ?_
  refine wl_v (ov_move rfl) rfl rfl rfl ?_
  refine wl_v (ov_len (sliceI_spec sI27) rfl) rfl rfl rfl ?_
  refine wl_if (ov_lss rfl rfl) rfl rfl rfl (fun c7 => ?_) (fun c7 => ?_)
  ·
    refine wl_nil ?_
    refine ce_then ?_
    refine cw_true rfl ?_
    refine cw_skip ?_
    refine ce_then ?_
    refine cw_seq ?_
    refine cw_block ?_
    refine cw_seq ?_
    refine cw_draw mixO [] (.nil) rfl ?_
    refine wg_takep (i := 0) rfl (ov_move rfl) rfl rfl rfl (by kernel_rfl) (by kernel_rfl) (by kernel_rfl) rfl ?_
    refine wg_takep (i := 1) rfl (ov_move rfl) rfl rfl rfl (by kernel_rfl) (by kernel_rfl) (by kernel_rfl) rfl ?_
    refine wg_take (i := 2) rfl (ov_index (k := k) (c := c) sI27 tI3 rfl rfl (some_holds (q := k * 1) (holds_old oA) (by rw [cells_length fI_len]; have hlt : k < xs.length := (by omega); omega)) (show k < xs.length from (by omega))) rfl rfl rfl (by kernel_rfl) (by kernel_rfl) (by kernel_rfl) (by kernel_rfl) ?_
    refine wg_take (i := 3) rfl (ov_load tI3 (holds_old oA) rfl (get_fI (show k < xs.length from (by omega)))) rfl rfl rfl (by kernel_rfl) (by kernel_rfl) (by kernel_rfl) (by kernel_rfl) ?_
    refine wg_takep (i := 4) rfl (ov_move rfl) rfl rfl rfl (by kernel_rfl) (by kernel_rfl) (by kernel_rfl) rfl ?_
    refine wg_takep (i := 5) rfl (ov_move rfl) rfl rfl rfl (by kernel_rfl) (by kernel_rfl) (by kernel_rfl) rfl ?_
    refine wg_takep (i := 6) rfl (ov_sub (r := ((k - 1 : Nat) : Int)) rfl rfl (by omega) (by omega)) rfl rfl rfl (by kernel_rfl) (by kernel_rfl) (by kernel_rfl) rfl ?_
    refine wg_take (i := 7) rfl (ov_index (k := k - 1) (c := c) sI27 tI3 rfl rfl (some_holds (q := (k - 1) * 1) (holds_old oA) (by rw [cells_length fI_len]; have hlt : k - 1 < xs.length := (by omega); omega)) (show k - 1 < xs.length from (by omega))) rfl rfl rfl (by kernel_rfl) (by kernel_rfl) (by kernel_rfl) (by kernel_rfl) ?_
    refine wg_take (i := 8) rfl (ov_load tI3 (holds_old oA) rfl (get_fI (show k - 1 < xs.length from (by omega)))) rfl rfl rfl (by kernel_rfl) (by kernel_rfl) (by kernel_rfl) (by kernel_rfl) ?_
    refine wg_takep_if (i := 9) rfl (ov_leq rfl rfl) rfl rfl rfl (by kernel_rfl) (by kernel_rfl) (by kernel_rfl) rfl (fun c19 => ?_) (fun c19 => ?_)
    ·
      refine wg_done (by kernel_rfl) ?_
      refine ce_then ?_
      refine cw_true rfl ?_
      refine cw_seq ?_
      refine cw_region ?_
      refine wl_v (ov_assign rfl) rfl rfl rfl ?_
      refine wl_nil ?_
      refine ce_then ?_
      refine cw_ret ?_
      refine ce_block_ret ?_
      refine ce_then_ret ?_
      refine ce_then_ret ?_
      refine ce_block_ret ?_
      refine ce_then_ret ?_
      refine ce_results (v := .bool false) (res1 rfl (rv_t rfl)) (fun w' hw => ?_)
      exact ⟨(bf (fun h => by have := h k (by omega) (by omega); omega)), (Keep.nil.ss hw).to_new⟩
    ·
      refine wg_done (by kernel_rfl) ?_
      refine ce_then ?_
      refine cw_false rfl ?_
      refine cw_skip ?_
      refine ce_block ?_
      refine ce_then ?_
      refine cw_region ?_
      refine wl_v (ov_move rfl) rfl rfl rfl ?_
      refine wl_v (ov_add (r := ((k + 1 : Nat) : Int)) rfl rfl rfl (by omega)) rfl rfl rfl ?_
      refine wl_v (ov_assign rfl) rfl rfl rfl ?_
      refine wl_nil ?_
      exact fun ac_ w_ hs_ => hR0 (k + 1) ⟨by omega, fun i h1 hi => by rcases Nat.lt_succ_iff_lt_or_eq.1 hi with h | rfl; exact hk2 i h1 h; omega⟩ (by omega) ac_ w_ (hs_.weaken (.cons rfl (.cons rfl (.nil))) (.nil))
  ·
    refine wl_nil ?_
    refine ce_then ?_
    refine cw_false rfl ?_
    refine cw_exit ?_
    refine ce_then_exit ?_
    refine ce_then_exit ?_
    refine ce_hit ?_
    refine ce_then ?_
    refine cw_seq ?_
    refine cw_region ?_
    refine wl_v (ov_assign rfl) rfl rfl rfl ?_
    refine wl_nil ?_
    refine ce_then ?_
    refine cw_ret ?_
    refine ce_results (v := .bool true) (res1 rfl (rv_t rfl)) (fun w' hw => ?_)
    exact ⟨(bt (fun i hi h1 => hk2 i h1 (by omega))), (Keep.nil.ss hw).to_new⟩
end Go.Proofs.Ythbfgkeoojghoaa.W42
