/- Walks of functions of the given program: each returns what its Lean function says and leaves the memory that was there as it was. Conditions: those of each theorem. -/
import Derived.Test.YthbfgkeoojghoaaSm
import Derived.Test.YthbfgkeoojghoaaProg
import Derived.Test.YthbfgkeoojghoaaPl
import Derived.Test.YthbfgkeoojghoaaPo
import Derived.Test.YthbfgkeoojghoaaPd
import Derived.Test.YthbfgkeoojghoaaPe
import Derived.Test.YthbfgkeoojghoaaPh
import Derived.Test.YthbfgkeoojghoaaPm
import Derived.Test.YthbfgkeoojghoaaPc
import Derived.Test.YthbfgkeoojghoaaPs
import Derived.Test.YthbfgkeoojghoaaPt
import Derived.Test.YthbfgkeoojghoaaPu
import Derived.Test.YthbfgkeoojghoaaPv
import Derived.Test.YthbfgkeoojghoaaPw
import Derived.Test.YthbfgkeoojghoaaSo
import Derived.Test.YthbfgkeoojghoaaSh
import Derived.Test.YthbfgkeoojghoaaT
import Derived.Test.YthbfgkeoojghoaaW1
import Derived.Test.YthbfgkeoojghoaaW2
import Derived.Test.YthbfgkeoojghoaaW5
import Derived.Test.YthbfgkeoojghoaaW9
import Derived.Test.YthbfgkeoojghoaaW35
import Derived.KernelRfl
namespace Go.Proofs.Ythbfgkeoojghoaa.W38
open Go.Sx Go.RowKit Go.Proofs.Ythbfgkeoojghoaa.T Go.Proofs.Ythbfgkeoojghoaa.W1 Go.Proofs.Ythbfgkeoojghoaa.W2 Go.Proofs.Ythbfgkeoojghoaa.W5 Go.Proofs.Ythbfgkeoojghoaa.W9 Go.Proofs.Ythbfgkeoojghoaa.W35
open Go.Plain
set_option linter.unusedVariables false
set_option maxRecDepth 100000 in
theorem szIntS_c (w : World) (A : Option Addr) (n : Nat) (c : Nat) (xs : List (Int)) (left : Int) (hA : At w A (cells fI xs)) (eA : xs.length = n) (lA : n ≤ c) (hl : 0 ≤ left ∧ left ≤ 1048576) (hn : n ≤ 9223372036854775807) : Calls Try.prog 84 #[.slice A (n) (c), .int .i64 (left)] w (Ret fun rv w' => rv = .int .i64 (if left - (n : Int) < 0 then -1 else left - (n : Int)) ∧ New w w' []) := by
  have oA := hA.atB
  subst eA
  refine fn_enter (args := [.slice A (xs.length) (c), .int .i64 (left)]) Try.func84 rfl Try.ntmps84 rfl (SS.start w) ?_
  refine cw_seq ?_
  refine cw_region ?_
  refine wl_v (ov_assign rfl) rfl rfl rfl ?_
  refine wl_nil ?_
  refine ce_then ?_
  refine cw_seq ?_
  refine cw_region ?_
  refine wl_v (ov_move rfl) rfl rfl rfl ?_
  refine wl_v (ov_move rfl) rfl rfl rfl ?_
  refine wl_v (ov_len (sliceI_spec sI27) rfl) rfl rfl rfl ?_
  refine wl_v (ov_sub (r := left - ((xs.length : Nat) : Int)) rfl rfl rfl (by omega)) rfl rfl rfl ?_
  refine wl_v (ov_assign rfl) rfl rfl rfl ?_
  refine wl_nil ?_
  refine ce_then ?_
  refine cw_seq ?_
  refine cw_seq ?_
  refine cw_region ?_
  refine wl_v (ov_move rfl) rfl rfl rfl ?_
  refine wl_if (ov_lss rfl rfl) rfl rfl rfl (fun c10 => ?_) (fun c10 => ?_)
  ·
    refine wl_nil ?_
    refine ce_then ?_
    refine cw_true rfl ?_
    refine cw_seq ?_
    refine cw_region ?_
    refine wl_v (ov_assign rfl) rfl rfl rfl ?_
    refine wl_nil ?_
    refine ce_then ?_
    refine cw_ret ?_
    refine ce_then_ret ?_
    refine ce_results (v := .int .i64 (-1)) (res1 rfl (rv_t rfl)) (fun w' hw => ?_)
    exact ⟨(by rw [if_pos (by omega)]), (Keep.nil.ss hw).to_new⟩
  ·
    refine wl_nil ?_
    refine ce_then ?_
    refine cw_false rfl ?_
    refine cw_skip ?_
    refine ce_then ?_
    refine cw_seq ?_
    refine cw_region ?_
    refine wl_v (ov_move rfl) rfl rfl rfl ?_
    refine wl_v (ov_assign rfl) rfl rfl rfl ?_
    refine wl_nil ?_
    refine ce_then ?_
    refine cw_ret ?_
    refine ce_results (v := .int .i64 (left - ((xs.length : Nat) : Int))) (res1 rfl (rv_t rfl)) (fun w' hw => ?_)
    exact ⟨(by rw [if_neg (by omega)]), (Keep.nil.ss hw).to_new⟩
set_option maxRecDepth 100000 in
theorem szIntSS_c (w : World) (A : Option Addr) (n : Nat) (c : Nat) (hs : List Hd) (xss : List (List Int)) (left : Int) (hA : At w A (cells fL hs)) (eA : xss.length = n) (lA : n ≤ c) (fA : NestF hs xss) (mA : Mx w hs xss) (hln : n ≤ 9223372036854775807) (hrz : ∀ r ∈ xss, r.length ≤ 9223372036854775807 ∧ ∀ x ∈ r, -9223372036854775808 ≤ x ∧ x ≤ 9223372036854775807) (hl : 0 ≤ left ∧ left ≤ 1048576) : Calls Try.prog 38 #[.slice A (n) (c), .int .i64 (left)] w (Ret fun rv w' => ∃ v, (v < 0 ∨ (xss.length ≤ 1048576 ∧ ∀ r ∈ xss, r.length ≤ 1048576)) ∧ rv = .int .i64 (v) ∧ New w w' []) := by
  have oA := hA.atB
  subst eA
  have flA := fA.1
  have omA := Mx.atB mA
  refine fn_enter (args := [.slice A (xss.length) (c), .int .i64 (left)]) Try.func38 rfl Try.ntmps38 rfl (SS.start w) ?_
  refine cw_seq ?_
  refine cw_region ?_
  refine wl_v (ov_assign rfl) rfl rfl rfl ?_
  refine wl_nil ?_
  refine ce_then ?_
  refine cw_seq ?_
  refine cw_region ?_
  refine wl_v (ov_move rfl) rfl rfl rfl ?_
  refine wl_v (ov_move rfl) rfl rfl rfl ?_
  refine wl_v (ov_len (sliceI_spec sI50) rfl) rfl rfl rfl ?_
  refine wl_v (ov_sub (r := left - ((xss.length : Nat) : Int)) rfl rfl rfl (by omega)) rfl rfl rfl ?_
  refine wl_v (ov_assign rfl) rfl rfl rfl ?_
  refine wl_nil ?_
  refine ce_then ?_
  refine cw_seq ?_
  refine cw_seq ?_
  refine cw_region ?_
  refine wl_v (ov_move rfl) rfl rfl rfl ?_
  refine wl_if (ov_lss rfl rfl) rfl rfl rfl (fun c11 => ?_) (fun c11 => ?_)
  ·
    refine wl_nil ?_
    refine ce_then ?_
    refine cw_true rfl ?_
    refine cw_seq ?_
    refine cw_region ?_
    refine wl_v (ov_assign rfl) rfl rfl rfl ?_
    refine wl_nil ?_
    refine ce_then ?_
    refine cw_ret ?_
    refine ce_then_ret ?_
    refine ce_results (v := .int .i64 (-1)) (res1 rfl (rv_t rfl)) (fun w' hw => ?_)
    exact ⟨-1, (.inl (by decide)), rfl, ((.nil : Keep _ _).ss hw).to_new⟩
  ·
    refine wl_nil ?_
    refine ce_then ?_
    refine cw_false rfl ?_
    refine cw_skip ?_
    refine ce_then ?_
    refine cw_seq ?_
    refine cw_seq ?_
    refine cw_region ?_
    refine wl_v (ov_assign rfl) rfl rfl rfl ?_
    refine wl_nil ?_
    refine ce_then ?_
    refine cw_block ?_
    refine cw_loop2 (fun (k : Nat) (l : Int) => [(0, .slice A (xss.length) (c)), (1, .int .i64 (l)), (5, .int .i64 (((k : Nat) : Int)))]) (fun (k : Nat) (l : Int) => []) (fun (k : Nat) (l : Int) => k ≤ xss.length ∧ (0 ≤ l ∧ l ≤ 1048576) ∧ ∀ r ∈ xss.take k, r.length ≤ 1048576) (fun (k : Nat) (l : Int) => xss.length - k) 0 (left - ((xss.length : Nat) : Int)) ⟨by omega, by omega, by simp⟩ (.cons rfl (.cons rfl (.cons (congrArg (fun z => some (Value.int .i64 z)) (show 0 = ((0 : Nat) : Int) by first | omega | rfl | (simp; done))) (.nil)))) (.nil) ?_
    intro R0 k l hk hR0
    obtain ⟨hk1, hk2, hk3⟩ := hk
    refine cw_seq ?_
    refine cw_seq ?_
    refine cw_region ?_
    refine wl_v (ov_move rfl) rfl rfl rfl ?_
    refine wl_v (ov_move rfl) rfl rfl rfl ?_
    refine wl_v (ov_len (sliceI_spec sI50) rfl) rfl rfl rfl ?_
    refine wl_if (ov_lss rfl rfl) rfl rfl rfl (fun c15 => ?_) (fun c15 => ?_)
    ·
      refine wl_nil ?_
      refine ce_then ?_
      refine cw_true rfl ?_
      refine cw_skip ?_
      refine ce_then ?_
      refine cw_seq ?_
      refine cw_block ?_
      refine cw_seq ?_
      refine cw_region ?_
      refine wl_v (ov_move rfl) rfl rfl rfl ?_
      refine wl_v (ov_move rfl) rfl rfl rfl ?_
      refine wl_v (ov_index (k := k) (c := c) sI50 tI27 rfl rfl (some_holds (q := k * 1) (holds_old oA) (by rw [cells_length fL_len]; have hlt : k < hs.length := (by omega); omega)) (show k < xss.length from (by omega))) rfl rfl rfl ?_
      refine wl_v (ov_load tI27 (holds_old oA) rfl (get_fLn fA (show k < xss.length from (by omega)))) rfl rfl rfl ?_
      refine wl_v (ov_move rfl) rfl rfl rfl ?_
      have hrk := (hrz _ (getD_mem (xs := xss) (k := k) [] (by omega))).1
      refine wl_r (or_call (fv := []) (vs := [.slice ((hs.getD k (none, 0, 0)).1) ((xss.getD k []).length) ((hs.getD k (none, 0, 0)).2.2), .int .i64 (l)]) (cs := []) en84 rfl rfl (call_v (fun w hw => szIntS_c w ((hs.getD k (none, 0, 0)).1) ((xss.getD k []).length) ((hs.getD k (none, 0, 0)).2.2) (xss.getD k []) l ((mx_at (mx_old omA) (show k < xss.length from (by omega))) w hw) rfl (fA.2 k (show k < xss.length from (by omega))).2 (by first | assumption | omega | (simp; omega)) (by first | assumption | omega | (simp; omega))))) rfl rfl (kt0 rfl ?_)
      refine wl_v (ov_assign rfl) rfl rfl rfl ?_
      refine wl_nil ?_
      refine ce_then ?_
      refine cw_seq ?_
      refine cw_region ?_
      refine wl_v (ov_move rfl) rfl rfl rfl ?_
      refine wl_if (ov_lss rfl rfl) rfl rfl rfl (fun c25 => ?_) (fun c25 => ?_)
      ·
        refine wl_nil ?_
        refine ce_then ?_
        refine cw_true rfl ?_
        refine cw_seq ?_
        refine cw_region ?_
        refine wl_v (ov_assign rfl) rfl rfl rfl ?_
        refine wl_nil ?_
        refine ce_then ?_
        refine cw_ret ?_
        refine ce_block_ret ?_
        refine ce_then_ret ?_
        refine ce_then_ret ?_
        refine ce_block_ret ?_
        refine ce_then_ret ?_
        refine ce_results (v := .int .i64 (-1)) (res1 rfl (rv_t rfl)) (fun w' hw => ?_)
        exact ⟨-1, (.inl (by decide)), rfl, ((.nil : Keep _ _).ss hw).to_new⟩
      ·
        refine wl_nil ?_
        refine ce_then ?_
        refine cw_false rfl ?_
        refine cw_skip ?_
        refine ce_block ?_
        refine ce_then ?_
        refine cw_region ?_
        refine wl_v (ov_move rfl) rfl rfl rfl ?_
        refine wl_v (ov_add (r := ((k + 1 : Nat) : Int)) rfl rfl rfl (by omega)) rfl rfl rfl ?_
        refine wl_v (ov_assign rfl) rfl rfl rfl ?_
        refine wl_nil ?_
        exact fun ac_ w_ hs_ => hR0 (k + 1) (l - (((xss.getD k []).length : Nat) : Int)) ⟨by omega, by split at c25 <;> omega, all_take_step (p := fun r : List Int => r.length ≤ 1048576) [] (by omega) hk3 (by split at c25 <;> omega)⟩ (by omega) ac_ w_ (hs_.weaken (.cons rfl (.cons (congrArg (fun z => some (Value.int .i64 z)) (show (if l - (((xss.getD k []).length) : Int) < 0 then -1 else l - (((xss.getD k []).length) : Int)) = (l - (((xss.getD k []).length : Nat) : Int)) from (if_neg (by split at c25 <;> omega)))) (.cons rfl (.nil)))) (.nil))
    ·
      refine wl_nil ?_
      refine ce_then ?_
      refine cw_false rfl ?_
      refine cw_exit ?_
      refine ce_then_exit ?_
      refine ce_then_exit ?_
      refine ce_hit ?_
      refine ce_then ?_
      refine cw_seq ?_
      refine cw_region ?_
      refine wl_v (ov_move rfl) rfl rfl rfl ?_
      refine wl_v (ov_assign rfl) rfl rfl rfl ?_
      refine wl_nil ?_
      refine ce_then ?_
      refine cw_ret ?_
      refine ce_results (v := .int .i64 (l)) (res1 rfl (rv_t rfl)) (fun w' hw => ?_)
      exact ⟨l, (.inr ⟨by omega, take_all (p := fun r : List Int => r.length ≤ 1048576) (k := k) (by omega) hk3⟩), rfl, ((.nil : Keep _ _).ss hw).to_new⟩
set_option maxRecDepth 100000 in
theorem toIntSS_c (w : World) (A : Option Addr) (n : Nat) (c : Nat) (hs : List Hd) (xss : List (List Int)) (hA : At w A (cells fL hs)) (eA : xss.length = n) (lA : n ≤ c) (fA : NestF hs xss) (mA : Mx w hs xss) (hsz : xss.length ≤ 1048576 ∧ ∀ r ∈ xss, r.length ≤ 1048576) : Calls Try.prog 40 #[.slice A (n) (c)] w (Ret fun rv w' => ∃ A2 c2 hs2, ((xss).length ≤ c2 ∧ True) ∧ rv = .slice A2 ((xss).length) (c2) ∧ New w w' [row 27 1 A2 ((xss).length) (c2) (cells fL hs2), nest 3 1 fI hs2 xss]) := by
  have oA := hA.atB
  subst eA
  have flA := fA.1
  have omA := Mx.atB mA
  refine fn_enter (args := [.slice A (xss.length) (c)]) Try.func40 rfl Try.ntmps40 rfl (SS.start w) ?_
  refine cw_seq ?_
  refine cw_region ?_
  refine wl_v (ov_assign rfl) rfl rfl rfl ?_
  refine wl_nil ?_
  refine ce_then ?_
  refine cw_seq ?_
  refine cw_region ?_
  refine wl_v (ov_move rfl) rfl rfl rfl ?_
  refine wl_v (ov_len (sliceI_spec sI50) rfl) rfl rfl rfl ?_
  refine wl_r (or_makeSlice (m := xss.length) sI50 tI27 rfl rfl (made_fL _) (by omega) (show xss.length ≤ maxLen by simp only [maxLen]; omega)) rfl rfl (kt1 rfl (fun g7 => ?_))
  refine ct_nils 3 1 fI xss.length ?_
  refine wl_v (ov_assign rfl) rfl rfl rfl ?_
  refine wl_nil ?_
  refine ce_then ?_
  refine cw_seq ?_
  refine cw_seq ?_
  refine cw_region ?_
  refine wl_v (ov_assign rfl) rfl rfl rfl ?_
  refine wl_nil ?_
  refine ce_then ?_
  refine cw_block ?_
  refine cw_loop3 (fun (i : Nat) (hs3 : List Hd) (m : Mat) => [(0, .slice A (xss.length) (c)), (2, .slice none (0) (0)), (3, .slice (some ⟨g7, 0, none⟩) (xss.length) (xss.length)), (4, .int .i64 (((i : Nat) : Int)))]) (fun (i : Nat) (hs3 : List Hd) (m : Mat) => [nest 3 1 fI hs3 m, row 27 1 (some ⟨g7, 0, none⟩) (xss.length) (xss.length) (cells fL hs3)]) (fun (i : Nat) (hs3 : List Hd) (m : Mat) => (i ≤ xss.length ∧ m.length = xss.length ∧ hs3.length = xss.length) ∧ ∀ j, j < i → m.getD j [] = xss.getD j []) (fun (i : Nat) (hs3 : List Hd) (m : Mat) => xss.length - i) 0 (List.replicate xss.length (none, 0, 0)) (List.replicate xss.length []) ⟨⟨by omega, List.length_replicate, List.length_replicate⟩, fun j hj => absurd hj (Nat.not_lt_zero _)⟩ (.cons rfl (.cons rfl (.cons rfl (.cons (congrArg (fun z => some (Value.int .i64 z)) (show 0 = ((0 : Nat) : Int) by first | omega | rfl | (simp; done))) (.nil))))) (.cons (.head) (.cons (.head) (.nil))) ?_
  intro R0 i hs3 m hk hR0
  obtain ⟨⟨hk1, hk2, hk4⟩, hk3⟩ := hk
  refine cw_seq ?_
  refine cw_seq ?_
  refine cw_region ?_
  refine wl_v (ov_move rfl) rfl rfl rfl ?_
  refine wl_v (ov_move rfl) rfl rfl rfl ?_
  refine wl_v (ov_len (sliceI_spec sI50) rfl) rfl rfl rfl ?_
  refine wl_if (ov_lss rfl rfl) rfl rfl rfl (fun c11 => ?_) (fun c11 => ?_)
  ·
    refine wl_nil ?_
    refine ce_then ?_
    refine cw_true rfl ?_
    refine cw_skip ?_
    refine ce_then ?_
    refine cw_seq ?_
    refine cw_block ?_
    refine cw_region ?_
    refine wl_v (ov_move rfl) rfl rfl rfl ?_
    refine wl_v (ov_move rfl) rfl rfl rfl ?_
    refine wl_v (ov_move rfl) rfl rfl rfl ?_
    refine wl_v (ov_move rfl) rfl rfl rfl ?_
    refine wl_v (ov_index (k := i) (c := c) sI50 tI27 rfl rfl (some_holds (q := i * 1) (holds_old oA) (by rw [cells_length fL_len]; have hlt : i < hs.length := (by omega); omega)) (show i < xss.length from (by omega))) rfl rfl rfl ?_
    refine wl_v (ov_load tI27 (holds_old oA) rfl (get_fLn fA (show i < xss.length from (by omega)))) rfl rfl rfl ?_
    refine wl_r (or_call (fv := []) (vs := [.slice ((hs.getD i (none, 0, 0)).1) ((xss.getD i []).length) ((hs.getD i (none, 0, 0)).2.2)]) (cs := []) en87 rfl rfl (call_x1 (fun w hw => toIntS_c w ((hs.getD i (none, 0, 0)).1) ((xss.getD i []).length) ((hs.getD i (none, 0, 0)).2.2) (xss.getD i []) ((mx_at (mx_old omA) (show i < xss.length from (by omega))) w hw) rfl (fA.2 i (show i < xss.length from (by omega))).2 (by have := hsz.2 _ (getD_mem (xs := xss) (k := i) [] (by omega)); omega)))) rfl rfl (kt1p rfl (fun g_20 h_20 => ?_))
    refine ct_fact (nest_facts (List.Mem.tail _ (List.Mem.head _))) (fun hnf21 => ?_)
    have hnl21 := hnf21.1
    refine wl_v (ov_index (k := i) (c := xss.length) sI50 tI27 rfl rfl (some_holds (q := i * 1) (holds_row (List.Mem.tail _ (List.Mem.tail _ (List.Mem.head _)))) (by rw [cells_length fL_len]; have hlt : i < hs3.length := (by omega); omega)) (show i < xss.length from (by omega))) rfl rfl rfl ?_
    refine wl_r0 (or_store_row (vs := [.slice (some ⟨g_20, 0, none⟩) (((xss.getD i []).length)) (((xss.getD i []).length))]) (cs' := cells fL (hs3.set i (some ⟨g_20, 0, none⟩, ((xss.getD i []).length), ((xss.getD i []).length)))) (.tail (.tail .head)) tI27 rfl rfl rfl rfl (by rw [cells_length fL_len]; have hlt := (show i < hs3.length from (by omega)); simp only [List.length_cons, List.length_nil]; omega) (by simp) (cells_splice fL_len (show i < hs3.length from (by omega)) (some ⟨g_20, 0, none⟩, ((xss.getD i []).length), ((xss.getD i []).length)))) rfl rfl (kn0 ?_)
    refine wl_nil ?_
    refine ce_block ?_
    refine ce_then ?_
    refine ct_put (i := i) (k := (xss.getD i []).length) (.cons (.tail .head) (.cons (.tail .head) (.cons (.head) (.nil)))) (by omega) rfl (Nat.le_refl _) ?_
    refine cw_region ?_
    refine wl_v (ov_move rfl) rfl rfl rfl ?_
    refine wl_v (ov_add (r := ((i + 1 : Nat) : Int)) rfl rfl rfl (by omega)) rfl rfl rfl ?_
    refine wl_v (ov_assign rfl) rfl rfl rfl ?_
    refine wl_nil ?_
    exact fun ac_ w_ hs_ => hR0 (i + 1) (hs3.set i (some ⟨g_20, 0, none⟩, (xss.getD i []).length, (xss.getD i []).length)) (m.set i (xss.getD i [])) ⟨⟨by omega, by rw [List.length_set]; exact hk2, by rw [List.length_set]; exact hk4⟩, fun j hj => by rw [getD_setM (by omega)]; split; (rename_i e; rw [e]); exact hk3 j (by omega)⟩ (by omega) ac_ w_ (hs_.weaken (.cons rfl (.cons rfl (.cons rfl (.cons rfl (.nil))))) (.cons (.head) (.cons (.head) (.nil))))
  ·
    refine wl_nil ?_
    refine ce_then ?_
    refine cw_false rfl ?_
    refine cw_exit ?_
    refine ce_then_exit ?_
    refine ce_then_exit ?_
    refine ce_hit ?_
    refine ce_then ?_
    refine cw_seq ?_
    refine cw_region ?_
    refine wl_v (ov_move rfl) rfl rfl rfl ?_
    refine wl_v (ov_assign rfl) rfl rfl rfl ?_
    refine wl_nil ?_
    refine ce_then ?_
    refine cw_ret ?_
    refine ce_results (v := .slice (some ⟨g7, 0, none⟩) (xss.length) (xss.length)) (res1 rfl (rv_t rfl)) (fun w' hw => ?_)
    exact ⟨some ⟨g7, 0, none⟩, xss.length, hs3, ⟨Nat.le_refl _, trivial⟩, rfl, ((.cons (.tail .head) (.consE (show nest 3 1 fI hs3 m = nest 3 1 fI hs3 xss by rw [mat_ext hk2 (fun j hj => hk3 j (by omega))]) (.head) (.nil)) : Keep _ _).ss hw).to_new⟩
set_option maxRecDepth 100000 in
theorem beaten_c (w : World) (A : Option Addr) (n : Nat) (c : Nat) (hs : List Hd) (xss : List (List Int)) (a : Nat) (hA : At w A (cells fL hs)) (eA : xss.length = n) (lA : n ≤ c) (fA : NestF hs xss) (mA : Mx w hs xss) (hT : TourP xss) (ha : a < xss.length) : Calls Try.prog 86 #[.slice A (n) (c), .int .i64 (((a : Nat) : Int))] w (Ret fun rv w' => ∃ A2 c2 ys, (ys.length ≤ c2 ∧ BetP xss a ys.length ys) ∧ rv = .slice A2 (ys.length) (c2) ∧ New w w' [row 3 1 A2 (ys.length) (c2) (cells fI ys)]) := by
  have oA := hA.atB
  subst eA
  have flA := fA.1
  have omA := Mx.atB mA
  have hT0 := hT.1
  refine fn_enter (args := [.slice A (xss.length) (c), .int .i64 (((a : Nat) : Int))]) Try.func86 rfl Try.ntmps86 rfl (SS.start w) ?_
  refine cw_seq ?_
  refine cw_region ?_
  refine wl_v (ov_assign rfl) rfl rfl rfl ?_
  refine wl_nil ?_
  refine ce_then ?_
  refine cw_seq ?_
  refine cw_region ?_
  refine wl_v (ov_move rfl) rfl rfl rfl ?_
  refine wl_r (or_buildSlice (e := 3) (size := 1) (is := [0]) (vs := [.int .i64 (((a : Nat) : Int))]) (cs := cells fI ([((a : Nat) : Int)])) rfl rfl rfl (by decide) (fun _ => by kernel_rfl)) rfl rfl (kt1 rfl (fun g9 => ?_))
  refine wl_v (ov_assign rfl) rfl rfl rfl ?_
  refine wl_nil ?_
  refine ce_then ?_
  refine cw_seq ?_
  refine cw_seq ?_
  refine cw_region ?_
  refine wl_v (ov_assign rfl) rfl rfl rfl ?_
  refine wl_nil ?_
  refine ce_then ?_
  refine cw_block ?_
  refine cw_loop4 (fun (i : Nat) (A3 : Option Addr) (c3 : Nat) (ys : List Int) => [(0, .slice A (xss.length) (c)), (4, .slice none (0) (0)), (5, .slice A3 (ys.length) (c3)), (6, .int .i64 (((i : Nat) : Int)))]) (fun (i : Nat) (A3 : Option Addr) (c3 : Nat) (ys : List Int) => [row 3 1 A3 (ys.length) (c3) (cells fI ys)]) (fun (i : Nat) (A3 : Option Addr) (c3 : Nat) (ys : List Int) => i ≤ ys.length ∧ ys.length ≤ c3 ∧ BetP xss a i ys) (fun (i : Nat) (A3 : Option Addr) (c3 : Nat) (ys : List Int) => xss.length - i) 0 (some ⟨g9, 0, none⟩) 1 ([((a : Nat) : Int)]) ⟨by omega, Nat.le_refl _, bet_start ha⟩ (.cons rfl (.cons rfl (.cons (congrArg (fun z => some (Value.slice (some ⟨g9, 0, none⟩) z 1)) (show 1 = (([((a : Nat) : Int)]).length) from rfl)) (.cons (congrArg (fun z => some (Value.int .i64 z)) (show 0 = ((0 : Nat) : Int) by first | omega | rfl | (simp; done))) (.nil))))) (.consE (show row 3 1 (some ⟨g9, 0, none⟩) (1) (1) (cells fI ([((a : Nat) : Int)])) = row 3 1 (some ⟨g9, 0, none⟩) (([((a : Nat) : Int)]).length) (1) (cells fI ([((a : Nat) : Int)])) by rfl) (.head) (.nil)) ?_
  intro R0 i A3 c3 ys hk hR0
  obtain ⟨hk1, hk2, hk3⟩ := hk
  have hbl := hk3.len
  refine cw_seq ?_
  refine cw_seq ?_
  refine cw_region ?_
  refine wl_v (ov_move rfl) rfl rfl rfl ?_
  refine wl_v (ov_move rfl) rfl rfl rfl ?_
  refine wl_v (ov_len (sliceI_spec sI27) rfl) rfl rfl rfl ?_
  refine wl_if (ov_lss rfl rfl) rfl rfl rfl (fun c13 => ?_) (fun c13 => ?_)
  ·
    refine wl_nil ?_
    refine ce_then ?_
    refine cw_true rfl ?_
    refine cw_skip ?_
    refine ce_then ?_
    refine cw_seq ?_
    refine cw_block ?_
    refine cw_seq ?_
    refine cw_region ?_
    refine wl_v (ov_assign rfl) rfl rfl rfl ?_
    refine wl_nil ?_
    refine ce_then ?_
    refine cw_block ?_
    refine cw_loop4 (fun (k : Nat) (A4 : Option Addr) (c4 : Nat) (ys2 : List Int) => [(0, .slice A (xss.length) (c)), (4, .slice none (0) (0)), (6, .int .i64 (((i : Nat) : Int))), (5, .slice A4 (ys2.length) (c4)), (7, .int .i64 (((k : Nat) : Int)))]) (fun (k : Nat) (A4 : Option Addr) (c4 : Nat) (ys2 : List Int) => [row 3 1 A4 (ys2.length) (c4) (cells fI ys2)]) (fun (k : Nat) (A4 : Option Addr) (c4 : Nat) (ys2 : List Int) => (k ≤ xss.length ∧ i < ys2.length) ∧ ys2.length ≤ c4 ∧ BetP xss a i ys2 ∧ ∀ b, b < k → ent xss (ys2.getD i 0).toNat b = 1 → ((b : Nat) : Int) ∈ ys2) (fun (k : Nat) (A4 : Option Addr) (c4 : Nat) (ys2 : List Int) => xss.length - k) 0 A3 c3 ys ⟨⟨by omega, by omega⟩, hk2, hk3, fun b hb => absurd hb (Nat.not_lt_zero _)⟩ (.cons rfl (.cons rfl (.cons rfl (.cons rfl (.cons (congrArg (fun z => some (Value.int .i64 z)) (show 0 = ((0 : Nat) : Int) by first | omega | rfl | (simp; done))) (.nil)))))) (.cons (.head) (.nil)) ?_
    intro R1 k A4 c4 ys2 hk1 hR1
    obtain ⟨⟨hj1, hji⟩, hj2, hj3, hj4⟩ := hk1
    have hbl2 := hj3.len
    have hxi := hj3.2.1 _ (getD_mem (xs := ys2) (k := i) 0 hji)
    have hrl := hT.row (a := (ys2.getD i 0).toNat) (by omega)
    have hee : ent xss (ys2.getD i 0).toNat k = (xss.getD (ys2.getD i 0).toNat []).getD k 0 := rfl
    refine cw_seq ?_
    refine cw_seq ?_
    refine cw_region ?_
    refine wl_v (ov_move rfl) rfl rfl rfl ?_
    refine wl_v (ov_move rfl) rfl rfl rfl ?_
    refine wl_v (ov_len (sliceI_spec sI50) rfl) rfl rfl rfl ?_
    refine wl_if (ov_lss rfl rfl) rfl rfl rfl (fun c19 => ?_) (fun c19 => ?_)
    ·
      refine wl_nil ?_
      refine ce_then ?_
      refine cw_true rfl ?_
      refine cw_skip ?_
      refine ce_then ?_
      refine cw_seq ?_
      refine cw_block ?_
      refine cw_seq ?_
      refine cw_region ?_
      refine wl_v (ov_move rfl) rfl rfl rfl ?_
      refine wl_v (ov_move rfl) rfl rfl rfl ?_
      refine wl_v (ov_move rfl) rfl rfl rfl ?_
      refine wl_v (ov_index (k := i) (c := c4) sI27 tI3 rfl rfl (some_holds (q := i * 1) (holds_row (List.Mem.head _)) (by rw [cells_length fI_len]; have hlt : i < ys2.length := (by omega); omega)) (show i < ys2.length from (by omega))) rfl rfl rfl ?_
      refine wl_v (ov_load tI3 (holds_row (List.Mem.head _)) rfl (get_fI (show i < ys2.length from (by omega)))) rfl rfl rfl ?_
      refine wl_v (ov_indexg sI50 tI27 rfl rfl (some_holds (q := ((ys2.getD i 0).toNat) * 1) (holds_old oA) (by rw [cells_length fL_len]; have hlt : (ys2.getD i 0).toNat < hs.length := (by omega); omega)) (by omega) (show (ys2.getD i 0).toNat < xss.length from (by omega))) rfl rfl rfl ?_
      refine wl_v (ov_load tI27 (holds_old oA) rfl (get_fLn fA (show (ys2.getD i 0).toNat < xss.length from (by omega)))) rfl rfl rfl ?_
      refine wl_v (ov_move rfl) rfl rfl rfl ?_
      refine wl_v (ov_index (k := k) (c := (hs.getD ((ys2.getD i 0).toNat) (none, 0, 0)).2.2) sI27 tI3 rfl rfl (some_holds (q := k * 1) (mx_at (mx_old omA) (show (ys2.getD i 0).toNat < xss.length from (by omega))) (by rw [cells_length fI_len]; have hlt : k < (xss.getD ((ys2.getD i 0).toNat) []).length := (by omega); omega)) (show k < (xss.getD ((ys2.getD i 0).toNat) []).length from (by omega))) rfl rfl rfl ?_
      refine wl_v (ov_load tI3 (mx_at (mx_old omA) (show (ys2.getD i 0).toNat < xss.length from (by omega))) rfl (get_fI (show k < (xss.getD ((ys2.getD i 0).toNat) []).length from (by omega)))) rfl rfl rfl ?_
      refine wl_if (ov_eql rfl rfl) rfl rfl rfl (fun c32 => ?_) (fun c32 => ?_)
      ·
        refine wl_v (ov_move rfl) rfl rfl rfl ?_
        refine wl_go rfl rfl ?_
        refine wl_v (ov_move rfl) rfl rfl rfl ?_
        refine wl_go rfl rfl ?_
        refine wl_v (ov_move rfl) rfl rfl rfl ?_
        refine wl_go rfl rfl ?_
        refine wl_r (or_call (fv := []) (vs := [.slice A4 (ys2.length) (c4), .int .i64 (((k : Nat) : Int))]) (cs := []) en107 rfl rfl (call_v (fun w hw => hasInt_c w A4 ys2.length c4 ys2 ((k : Nat) : Int) ((holds_row (List.Mem.head _)) w hw) rfl hj2 (by omega)))) rfl rfl (kt_if rfl (fun c36 => ?_) (fun c36 => ?_))
        ·
          refine wl_go rfl rfl ?_
          refine wl_v (ov_not rfl) rfl rfl rfl ?_
          refine wl_v (ov_pick_t rfl rfl) rfl rfl rfl ?_
          refine wl_nil ?_
          refine ce_then ?_
          refine cw_false rfl ?_
          refine cw_skip ?_
          refine ce_block ?_
          refine ce_then ?_
          refine cw_region ?_
          refine wl_v (ov_move rfl) rfl rfl rfl ?_
          refine wl_v (ov_add (r := ((k + 1 : Nat) : Int)) rfl rfl rfl (by omega)) rfl rfl rfl ?_
          refine wl_v (ov_assign rfl) rfl rfl rfl ?_
          refine wl_nil ?_
          exact fun ac_ w_ hs_ => hR1 (k + 1) A4 c4 ys2 ⟨⟨by omega, hji⟩, hj2, hj3, fun b hb h9 => by rcases Nat.lt_succ_iff_lt_or_eq.1 hb with h | rfl; exact hj4 b h h9; exact c36⟩ (by omega) ac_ w_ (hs_.weaken (.cons rfl (.cons rfl (.cons rfl (.cons rfl (.cons rfl (.nil)))))) (.cons (.head) (.nil)))
        ·
          refine wl_go rfl rfl ?_
          refine wl_v (ov_not rfl) rfl rfl rfl ?_
          refine wl_v (ov_pick_t rfl rfl) rfl rfl rfl ?_
          refine wl_nil ?_
          refine ce_then ?_
          refine cw_true rfl ?_
          refine cw_region ?_
          refine wl_v (ov_move rfl) rfl rfl rfl ?_
          refine wl_v (ov_move rfl) rfl rfl rfl ?_
          refine wl_r (or_buildSlice (e := 3) (size := 1) (is := [0]) (vs := [.int .i64 (((k : Nat) : Int))]) (cs := cells fI ([((k : Nat) : Int)])) rfl rfl rfl (by decide) (fun _ => by kernel_rfl)) rfl rfl (kt1 rfl (fun g41 => ?_))
          refine wl_r (or_append (c2 := 1) sI27 tI3 rfl (by decide) rfl rfl (.tail .head) (holds_row (List.Mem.head _)) ((by rw [cells_length fI_len]; rfl)) (one_cells fI_one _) cells_append (by omega) (by omega)) rfl rfl (kt2p rfl (fun A42 c42 h42 => ?_))
          refine wl_v (ov_assign rfl) rfl rfl rfl ?_
          refine wl_nil ?_
          refine ce_block ?_
          refine ce_then ?_
          refine cw_region ?_
          refine wl_v (ov_move rfl) rfl rfl rfl ?_
          refine wl_v (ov_add (r := ((k + 1 : Nat) : Int)) rfl rfl rfl (by omega)) rfl rfl rfl ?_
          refine wl_v (ov_assign rfl) rfl rfl rfl ?_
          refine wl_nil ?_
          exact fun ac_ w_ hs_ => hR1 (k + 1) A42 c42 (ys2 ++ [((k : Nat) : Int)]) ⟨⟨by omega, by rw [List.length_append]; omega⟩, by rw [List.length_append]; exact h42, hj3.add hji (by omega) (by omega) c36, fun b hb => by rw [getD_left hji]; intro h9; rcases Nat.lt_succ_iff_lt_or_eq.1 hb with h | rfl; exact List.mem_append_left _ (hj4 b h h9); simp⟩ (by omega) ac_ w_ (hs_.weaken (.cons rfl (.cons rfl (.cons rfl (.cons (congrArg (fun z => some (Value.slice A42 z c42)) (show (ys2.length + 1) = ((ys2 ++ [((k : Nat) : Int)]).length) from (by rw [List.length_append]; rfl))) (.cons rfl (.nil)))))) (.consE (show row 3 1 A42 (ys2.length + 1) (c42) (cells fI (ys2 ++ ([((k : Nat) : Int)]))) = row 3 1 A42 ((ys2 ++ [((k : Nat) : Int)]).length) (c42) (cells fI (ys2 ++ [((k : Nat) : Int)])) by rw [List.length_append]; rfl) (.head) (.nil)))
      ·
        refine wl_v (ov_move rfl) rfl rfl rfl ?_
        refine wl_not rfl rfl rfl rfl rfl rfl ?_
        refine wl_not rfl rfl rfl rfl rfl rfl ?_
        refine wl_not rfl rfl rfl rfl rfl rfl ?_
        refine wl_not rfl rfl rfl rfl rfl rfl ?_
        refine wl_v (ov_pick_f rfl rfl) rfl rfl rfl ?_
        refine wl_nil ?_
        refine ce_then ?_
        refine cw_false rfl ?_
        refine cw_skip ?_
        refine ce_block ?_
        refine ce_then ?_
        refine cw_region ?_
        refine wl_v (ov_move rfl) rfl rfl rfl ?_
        refine wl_v (ov_add (r := ((k + 1 : Nat) : Int)) rfl rfl rfl (by omega)) rfl rfl rfl ?_
        refine wl_v (ov_assign rfl) rfl rfl rfl ?_
        refine wl_nil ?_
        exact fun ac_ w_ hs_ => hR1 (k + 1) A4 c4 ys2 ⟨⟨by omega, hji⟩, hj2, hj3, fun b hb h9 => by rcases Nat.lt_succ_iff_lt_or_eq.1 hb with h | rfl; exact hj4 b h h9; exact absurd (hee.symm.trans h9) c32⟩ (by omega) ac_ w_ (hs_.weaken (.cons rfl (.cons rfl (.cons rfl (.cons rfl (.cons rfl (.nil)))))) (.cons (.head) (.nil)))
    ·
      refine wl_nil ?_
      refine ce_then ?_
      refine cw_false rfl ?_
      refine cw_exit ?_
      refine ce_then_exit ?_
      refine ce_then_exit ?_
      refine ce_hit ?_
      refine ce_block ?_
      refine ce_then ?_
      refine cw_region ?_
      refine wl_v (ov_move rfl) rfl rfl rfl ?_
      refine wl_v (ov_add (r := ((i + 1 : Nat) : Int)) rfl rfl rfl (by omega)) rfl rfl rfl ?_
      refine wl_v (ov_assign rfl) rfl rfl rfl ?_
      refine wl_nil ?_
      exact fun ac_ w_ hs_ => hR0 (i + 1) A4 c4 ys2 ⟨by omega, hj2, hj3.next (fun b hb => hj4 b (by omega))⟩ (by omega) ac_ w_ (hs_.weaken (.cons rfl (.cons rfl (.cons rfl (.cons rfl (.nil))))) (.cons (.head) (.nil)))
  ·
    refine wl_nil ?_
    refine ce_then ?_
    refine cw_false rfl ?_
    refine cw_exit ?_
    refine ce_then_exit ?_
    refine ce_then_exit ?_
    refine ce_hit ?_
    refine ce_then ?_
    refine cw_seq ?_
    refine cw_region ?_
    refine wl_v (ov_move rfl) rfl rfl rfl ?_
    refine wl_v (ov_assign rfl) rfl rfl rfl ?_
    refine wl_nil ?_
    refine ce_then ?_
    refine cw_ret ?_
    refine ce_results (v := .slice A3 (ys.length) (c3)) (res1 rfl (rv_t rfl)) (fun w' hw => ?_)
    exact ⟨A3, c3, ys, ⟨hk2, by rw [show ys.length = i from by omega]; exact hk3⟩, rfl, ((.cons (.head) (.nil) : Keep _ _).ss hw).to_new⟩
set_option maxRecDepth 100000 in
theorem IsStrongS_c (w : World) (A : Option Addr) (n : Nat) (c : Nat) (hs : List Hd) (xss : List (List Int)) (hA : At w A (cells fL hs)) (eA : xss.length = n) (lA : n ≤ c) (fA : NestF hs xss) (mA : Mx w hs xss) (hsz : xss.length ≤ 1048576 ∧ ∀ r ∈ xss, r.length ≤ 1048576) (hbd : ∀ r ∈ xss, ∀ x ∈ r, -9223372036854775808 ≤ x ∧ x ≤ 9223372036854775807) : Calls Try.prog 39 #[.slice A (n) (c)] w (Ret fun rv w' => rv = .bool (decide (TourP xss ∧ StrongP (rsum xss))) ∧ New w w' []) := by
  have oA := hA.atB
  subst eA
  have flA := fA.1
  have omA := Mx.atB mA
  refine fn_enter (args := [.slice A (xss.length) (c)]) Try.func39 rfl Try.ntmps39 rfl (SS.start w) ?_
  refine cw_seq ?_
  refine cw_region ?_
  refine wl_v (ov_assign rfl) rfl rfl rfl ?_
  refine wl_nil ?_
  refine ce_then ?_
  refine cw_seq ?_
  refine cw_seq ?_
  refine cw_region ?_
  refine wl_v (ov_move rfl) rfl rfl rfl ?_
  refine wl_r (or_call (fv := []) (vs := [.slice A (xss.length) (c)]) (cs := []) en85 rfl rfl (call_v (fun w hw => validTS_c w A xss.length c hs xss ((holds_old oA) w hw) rfl lA fA ((mx_old omA) w hw) (by first | assumption | omega | (simp; omega)) (by first | assumption | omega | (simp; omega))))) rfl rfl (kt_if rfl (fun c5 => ?_) (fun c5 => ?_))
  ·
    refine wl_v (ov_not rfl) rfl rfl rfl ?_
    refine wl_nil ?_
    refine ce_then ?_
    refine cw_false rfl ?_
    refine cw_skip ?_
    refine ce_then ?_
    refine cw_seq ?_
    refine cw_seq ?_
    refine cw_region ?_
    refine wl_v (ov_assign rfl) rfl rfl rfl ?_
    refine wl_nil ?_
    refine ce_then ?_
    refine cw_block ?_
    refine cw_loop1 (fun (k : Nat) => [(0, .slice A (xss.length) (c)), (3, .int .i64 (((k : Nat) : Int)))]) (fun (k : Nat) => []) (fun (k : Nat) => k ≤ xss.length ∧ ∀ a, a < k → ∃ ys, BetP xss a ys.length ys ∧ xss.length ≤ ys.length) (fun (k : Nat) => xss.length - k) 0 ⟨by omega, fun a ha => absurd ha (Nat.not_lt_zero _)⟩ (.cons rfl (.cons (congrArg (fun z => some (Value.int .i64 z)) (show 0 = ((0 : Nat) : Int) by first | omega | rfl | (simp; done))) (.nil))) (.nil) ?_
    intro R0 k hk hR0
    obtain ⟨hk1, hk2⟩ := hk
    refine cw_seq ?_
    refine cw_seq ?_
    refine cw_region ?_
    refine wl_v (ov_move rfl) rfl rfl rfl ?_
    refine wl_v (ov_move rfl) rfl rfl rfl ?_
    refine wl_v (ov_len (sliceI_spec sI50) rfl) rfl rfl rfl ?_
    refine wl_if (ov_lss rfl rfl) rfl rfl rfl (fun c10 => ?_) (fun c10 => ?_)
    ·
      refine wl_nil ?_
      refine ce_then ?_
      refine cw_true rfl ?_
      refine cw_skip ?_
      refine ce_then ?_
      refine cw_seq ?_
      refine cw_block ?_
      refine cw_seq ?_
      refine cw_region ?_
      refine wl_v (ov_move rfl) rfl rfl rfl ?_
      refine wl_v (ov_move rfl) rfl rfl rfl ?_
      refine wl_r (or_call (fv := []) (vs := [.slice A (xss.length) (c), .int .i64 (((k : Nat) : Int))]) (cs := []) en86 rfl rfl (call_x3 (fun w hw => beaten_c w A xss.length c hs xss k ((holds_old oA) w hw) rfl lA fA ((mx_old omA) w hw) (by first | assumption | omega | (simp; omega)) (by first | assumption | omega | (simp; omega))))) rfl rfl (kt3p rfl (fun A2_15 c2_15 ys_15 h_15 => ?_))
      refine wl_v (ov_len (sliceI_spec sI27) rfl) rfl rfl rfl ?_
      refine wl_v (ov_move rfl) rfl rfl rfl ?_
      refine wl_v (ov_len (sliceI_spec sI50) rfl) rfl rfl rfl ?_
      refine wl_if (ov_lss rfl rfl) rfl rfl rfl (fun c19 => ?_) (fun c19 => ?_)
      ·
        refine wl_nil ?_
        refine ce_then ?_
        refine cw_true rfl ?_
        refine cw_seq ?_
        refine cw_region ?_
        refine wl_v (ov_assign rfl) rfl rfl rfl ?_
        refine wl_nil ?_
        refine ce_then ?_
        refine cw_ret ?_
        refine ce_block_ret ?_
        refine ce_then_ret ?_
        refine ce_then_ret ?_
        refine ce_block_ret ?_
        refine ce_then_ret ?_
        refine ce_results (v := .bool false) (res1 rfl (rv_t rfl)) (fun w' hw => ?_)
        exact ⟨(bf (fun h => bet_weak c5 h_15.2 (by omega) h.2)), (Keep.nil.ss hw).to_new⟩
      ·
        refine wl_nil ?_
        refine ce_then ?_
        refine cw_false rfl ?_
        refine cw_skip ?_
        refine ce_block ?_
        refine ce_then ?_
        refine cw_region ?_
        refine wl_v (ov_move rfl) rfl rfl rfl ?_
        refine wl_v (ov_add (r := ((k + 1 : Nat) : Int)) rfl rfl rfl (by omega)) rfl rfl rfl ?_
        refine wl_v (ov_assign rfl) rfl rfl rfl ?_
        refine wl_nil ?_
        exact fun ac_ w_ hs_ => hR0 (k + 1) ⟨by omega, fun a ha => by rcases Nat.lt_succ_iff_lt_or_eq.1 ha with h | rfl; exact hk2 a h; exact ⟨ys_15, h_15.2, by omega⟩⟩ (by omega) ac_ w_ (hs_.weaken (.cons rfl (.cons rfl (.nil))) (.nil))
    ·
      refine wl_nil ?_
      refine ce_then ?_
      refine cw_false rfl ?_
      refine cw_exit ?_
      refine ce_then_exit ?_
      refine ce_then_exit ?_
      refine ce_hit ?_
      refine ce_then ?_
      refine cw_seq ?_
      refine cw_region ?_
      refine wl_v (ov_assign rfl) rfl rfl rfl ?_
      refine wl_nil ?_
      refine ce_then ?_
      refine cw_ret ?_
      refine ce_results (v := .bool true) (res1 rfl (rv_t rfl)) (fun w' hw => ?_)
      exact ⟨(bt ⟨c5, bet_strong c5 (fun a ha => hk2 a (by omega))⟩), (Keep.nil.ss hw).to_new⟩
  ·
    refine wl_v (ov_not rfl) rfl rfl rfl ?_
    refine wl_nil ?_
    refine ce_then ?_
    refine cw_true rfl ?_
    refine cw_seq ?_
    refine cw_region ?_
    refine wl_v (ov_assign rfl) rfl rfl rfl ?_
    refine wl_nil ?_
    refine ce_then ?_
    refine cw_ret ?_
    refine ce_then_ret ?_
    refine ce_results (v := .bool false) (res1 rfl (rv_t rfl)) (fun w' hw => ?_)
    exact ⟨(bf (fun h => c5 h.1)), (Keep.nil.ss hw).to_new⟩
set_option maxRecDepth 100000 in
theorem IsStrongI_c (w : World) (A : Option Addr) (n : Nat) (c : Nat) (hs : List Hd) (xss : List (List Int)) (hA : At w A (cells fL hs)) (eA : xss.length = n) (lA : n ≤ c) (fA : NestF hs xss) (mA : Mx w hs xss) (hsz : xss.length ≤ 1048576 ∧ ∀ r ∈ xss, r.length ≤ 1048576) : Calls Try.prog 41 #[.slice A (n) (c)] w (Ret fun rv w' => rv = .bool (decide (TourP xss ∧ StrongP (rsum xss))) ∧ New w w' []) := by
  have oA := hA.atB
  subst eA
  have flA := fA.1
  have omA := Mx.atB mA
  refine fn_enter (args := [.slice A (xss.length) (c)]) Try.func41 rfl Try.ntmps41 rfl (SS.start w) ?_
  refine cw_seq ?_
  refine cw_region ?_
  refine wl_v (ov_assign rfl) rfl rfl rfl ?_
  refine wl_nil ?_
  refine ce_then ?_
  refine cw_seq ?_
  refine cw_seq ?_
  refine cw_region ?_
  refine wl_v (ov_move rfl) rfl rfl rfl ?_
  refine wl_r (or_call (fv := []) (vs := [.slice A (xss.length) (c)]) (cs := []) en88 rfl rfl (call_v (fun w hw => ValidTI_c w A xss.length c hs xss ((holds_old oA) w hw) rfl lA fA ((mx_old omA) w hw) (by first | assumption | omega | (simp; omega))))) rfl rfl (kt_if rfl (fun c5 => ?_) (fun c5 => ?_))
  ·
    have hT := c5
    have hT0 := hT.1
    have hsc := tour_scores hT
    have hv : scV xss = rsum xss := if_pos c5
    have hrl := rsum_len xss
    have hsl := scoreL_len (rsum xss)
    have hsl2 : (scV xss).length = xss.length := by rw [hv, hrl]
    have hil := idx_last (L := scoreL (rsum xss)) (n := xss.length) (by omega) (by omega) (by have h9 := hsc.2.2; rwa [hrl] at h9)
    refine wl_v (ov_not rfl) rfl rfl rfl ?_
    refine wl_nil ?_
    refine ce_then ?_
    refine cw_false rfl ?_
    refine cw_skip ?_
    refine ce_then ?_
    refine cw_seq ?_
    refine cw_region ?_
    refine wl_v (ov_move rfl) rfl rfl rfl ?_
    refine wl_r (or_call (fv := []) (vs := [.slice A (xss.length) (c)]) (cs := []) en90 rfl rfl (call_x2 (fun w hw => ScoresI_c w A xss.length c hs xss ((holds_old oA) w hw) rfl lA fA ((mx_old omA) w hw) (by first | assumption | omega | (simp; omega))))) rfl rfl (kt2p rfl (fun A2_8 c2_8 h_8 => ?_))
    refine wl_r (or_call (fv := []) (vs := [.slice A2_8 ((scV xss).length) (c2_8)]) (cs := []) en89 rfl rfl (call_x2 (fun w hw => over_c w A2_8 ((scV xss).length) c2_8 (scV xss) ((holds_row (List.Mem.head _)) w hw) rfl h_8 (by rw [hv]; exact hsc.1.small)))) rfl rfl (kt2p rfl (fun A2_9 c2_9 h_9 => ?_))
    refine wl_v (ov_assign rfl) rfl rfl rfl ?_
    refine wl_nil ?_
    refine ce_then ?_
    refine cw_seq ?_
    refine cw_region ?_
    refine wl_v (ov_move rfl) rfl rfl rfl ?_
    refine wl_r (or_call (fv := []) (vs := [.slice A2_9 (((scV xss).length)) (c2_9), .int .i64 (0)]) (cs := []) en91 rfl rfl (call_v (fun w hw => indexI_c w A2_9 ((scV xss).length) c2_9 (scoreL (scV xss)) 0 ((holds_row (List.Mem.head _)) w hw) (by rw [hv] <;> omega) h_9 (by rw [hv]; omega)))) rfl rfl (kt0 rfl ?_)
    refine wl_v (ov_move rfl) rfl rfl rfl ?_
    refine wl_v (ov_len (sliceI_spec sI27) rfl) rfl rfl rfl ?_
    refine wl_v (ov_sub (r := ((((scV xss).length) : Nat) : Int) - 1) rfl rfl rfl (by omega)) rfl rfl rfl ?_
    refine wl_if (ov_eql rfl rfl) rfl rfl rfl (fun c15 => ?_) (fun c15 => ?_)
    ·
      refine wl_v (ov_assign rfl) rfl rfl rfl ?_
      refine wl_nil ?_
      refine ce_then ?_
      refine cw_ret ?_
      refine ce_results (v := .bool true) (res1 rfl (rv_t rfl)) (fun w' hw => ?_)
      exact ⟨(bt ⟨c5, hsc, fun k hk => hil.1 (by rw [hv] at c15; omega) k (by omega)⟩), (Keep.nil.ss hw).to_new⟩
    ·
      refine wl_v (ov_assign rfl) rfl rfl rfl ?_
      refine wl_nil ?_
      refine ce_then ?_
      refine cw_ret ?_
      refine ce_results (v := .bool false) (res1 rfl (rv_t rfl)) (fun w' hw => ?_)
      exact ⟨(bf (fun h => c15 (by rw [hv, hrl]; exact hil.2 (fun k hk => h.2.2 k (by omega))))), (Keep.nil.ss hw).to_new⟩
  ·
    refine wl_v (ov_not rfl) rfl rfl rfl ?_
    refine wl_nil ?_
    refine ce_then ?_
    refine cw_true rfl ?_
    refine cw_seq ?_
    refine cw_region ?_
    refine wl_v (ov_assign rfl) rfl rfl rfl ?_
    refine wl_nil ?_
    refine ce_then ?_
    refine cw_ret ?_
    refine ce_then_ret ?_
    refine ce_results (v := .bool false) (res1 rfl (rv_t rfl)) (fun w' hw => ?_)
    exact ⟨(bf (fun h => c5 h.1)), (Keep.nil.ss hw).to_new⟩
end Go.Proofs.Ythbfgkeoojghoaa.W38
