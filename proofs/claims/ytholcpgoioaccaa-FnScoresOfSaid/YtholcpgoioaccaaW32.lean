/- Walks of functions of the given program: each returns what its Lean function says and leaves the memory that was there as it was. Conditions: those of each theorem. -/
import Derived.Test.YtholcpgoioaccaaSm
import Derived.Test.YtholcpgoioaccaaProg
import Derived.Test.YtholcpgoioaccaaPl
import Derived.Test.YtholcpgoioaccaaPo
import Derived.Test.YtholcpgoioaccaaPd
import Derived.Test.YtholcpgoioaccaaPe
import Derived.Test.YtholcpgoioaccaaPh
import Derived.Test.YtholcpgoioaccaaPm
import Derived.Test.YtholcpgoioaccaaPc
import Derived.Test.YtholcpgoioaccaaPs
import Derived.Test.YtholcpgoioaccaaPt
import Derived.Test.YtholcpgoioaccaaPu
import Derived.Test.YtholcpgoioaccaaPv
import Derived.Test.YtholcpgoioaccaaSo
import Derived.Test.YtholcpgoioaccaaSh
import Derived.Test.YtholcpgoioaccaaT
import Derived.Test.YtholcpgoioaccaaW1
import Derived.Test.YtholcpgoioaccaaW2
import Derived.Test.YtholcpgoioaccaaW3
import Derived.Test.YtholcpgoioaccaaW6
import Derived.Test.YtholcpgoioaccaaW7
import Derived.Test.YtholcpgoioaccaaW10
import Derived.KernelRfl
namespace Go.Proofs.Ytholcpgoioaccaa.W32
open Go.Sx Go.RowKit Go.Proofs.Ytholcpgoioaccaa.T Go.Proofs.Ytholcpgoioaccaa.W1 Go.Proofs.Ytholcpgoioaccaa.W2 Go.Proofs.Ytholcpgoioaccaa.W3 Go.Proofs.Ytholcpgoioaccaa.W6 Go.Proofs.Ytholcpgoioaccaa.W7 Go.Proofs.Ytholcpgoioaccaa.W10
open Go.Plain
set_option linter.unusedVariables false
set_option maxRecDepth 100000 in
theorem table_c (w : World) (a : Nat) (b : Nat) (Fc : FuncId) (cs : List Value) (T : Nat → Nat → Int) (hab : a ≤ 1000 ∧ b ≤ 1000) (hen : Enters Try.prog Fc) (hf : ∀ i k, i < a → k < b → ∀ w', Below w.heap.size w w' → Calls Try.prog Fc ([] ++ [Value.int .i64 ((i : Nat) : Int), Value.int .i64 ((k : Nat) : Int)] ++ cs).toArray w' (Ret fun v w'' => v = .int .i64 (T i k) ∧ New w' w'' [])) : Calls Try.prog 57 #[.int .i64 (((a : Nat) : Int)), .int .i64 (((b : Nat) : Int)), .func (.func Fc) #[] cs.toArray] w (Ret fun rv w' => ∃ A2 c2 hs2, ((tableM a b T).length ≤ c2 ∧ True) ∧ rv = .slice A2 ((tableM a b T).length) (c2) ∧ New w w' [row 23 1 A2 ((tableM a b T).length) (c2) (cells fL hs2), nest 3 1 fI hs2 (tableM a b T)]) := by
  refine fn_enter (args := [.int .i64 (((a : Nat) : Int)), .int .i64 (((b : Nat) : Int)), .func (.func Fc) #[] cs.toArray]) Try.func57 rfl Try.ntmps57 rfl (SS.start w) ?_
  refine cw_seq ?_
  refine cw_region ?_
  refine wl_v (ov_assign rfl) rfl rfl rfl ?_
  refine wl_nil ?_
  refine ce_then ?_
  refine cw_seq ?_
  refine cw_region ?_
  refine wl_v (ov_move rfl) rfl rfl rfl ?_
  refine wl_r (or_makeSlice (m := a) sI33 tI23 rfl rfl (made_fL _) (by omega) (show a ≤ maxLen by simp only [maxLen]; omega)) rfl rfl (kt1 rfl (fun g11 => ?_))
  refine ct_nils 3 1 fI a ?_
  refine wl_v (ov_assign rfl) rfl rfl rfl ?_
  refine wl_nil ?_
  refine ce_then ?_
  refine cw_seq ?_
  refine cw_seq ?_
  refine cw_region ?_
  refine wl_v (ov_move rfl) rfl rfl rfl ?_
  refine wl_v (ov_len (sliceI_spec sI33) rfl) rfl rfl rfl ?_
  refine wl_v (ov_move rfl) rfl rfl rfl ?_
  refine wl_nil ?_
  refine ce_then ?_
  refine cw_block ?_
  refine cw_loop3 (fun (i : Nat) (hs3 : List Hd) (m : Mat) => [(1, .int .i64 (((b : Nat) : Int))), (2, .func (.func Fc) #[] cs.toArray), (6, .slice none (0) (0)), (7, .slice (some ⟨g11, 0, none⟩) (a) (a)), (13, .int .i64 (((a : Nat) : Int))), (14, .int .i64 (((i : Nat) : Int)))]) (fun (i : Nat) (hs3 : List Hd) (m : Mat) => [nest 3 1 fI hs3 m, row 23 1 (some ⟨g11, 0, none⟩) (a) (a) (cells fL hs3)]) (fun (i : Nat) (hs3 : List Hd) (m : Mat) => (i ≤ a ∧ m.length = a ∧ hs3.length = a) ∧ ∀ j, j < i → m.getD j [] = (List.range b).map (T j)) (fun (i : Nat) (hs3 : List Hd) (m : Mat) => a - i) 0 (List.replicate a (none, 0, 0)) (List.replicate a []) ⟨⟨by omega, List.length_replicate, List.length_replicate⟩, fun j hj => absurd hj (Nat.not_lt_zero _)⟩ (.cons rfl (.cons rfl (.cons rfl (.cons rfl (.cons rfl (.cons (congrArg (fun z => some (Value.int .i64 z)) (show 0 = ((0 : Nat) : Int) by first | omega | rfl | (simp; done))) (.nil))))))) (.cons (.head) (.cons (.head) (.nil))) ?_
  intro R0 i hs3 m hk hR0
  obtain ⟨⟨hk1, hk2, hk4⟩, hk3⟩ := hk
  refine cw_seq ?_
  refine cw_region ?_
  refine wl_if (ov_lss rfl rfl) rfl rfl rfl (fun c15 => ?_) (fun c15 => ?_)
  ·
    refine wl_nil ?_
    refine ce_then ?_
    refine cw_seq ?_
    refine cw_true rfl ?_
    refine cw_skip ?_
    refine ce_then ?_
    refine cw_seq ?_
    refine cw_block ?_
    refine cw_seq ?_
    refine cw_region ?_
    refine wl_v (ov_move rfl) rfl rfl rfl ?_
    refine wl_v (ov_assign rfl) rfl rfl rfl ?_
    refine wl_nil ?_
    refine ce_then ?_
    refine cw_seq ?_
    refine cw_region ?_
    refine wl_v (ov_move rfl) rfl rfl rfl ?_
    refine wl_v (ov_move rfl) rfl rfl rfl ?_
    refine wl_v (ov_move rfl) rfl rfl rfl ?_
    refine wl_r (or_makeSlice (m := b) sI23 tI3 rfl rfl (made_fI _) (by omega) (show b ≤ maxLen by simp only [maxLen]; omega)) rfl rfl (kt1 rfl (fun g20 => ?_))
    refine ct_fact (nest_facts (List.Mem.tail _ (List.Mem.head _))) (fun hnf21 => ?_)
    have hnl21 := hnf21.1
    refine wl_v (ov_index (k := i) (c := a) sI33 tI23 rfl rfl (some_holds (q := i * 1) (holds_row (List.Mem.tail _ (List.Mem.tail _ (List.Mem.head _)))) (by rw [cells_length fL_len]; have hlt : i < hs3.length := (by omega); omega)) (show i < a from (by omega))) rfl rfl rfl ?_
    refine wl_r0 (or_store_row (vs := [.slice (some ⟨g20, 0, none⟩) (b) (b)]) (cs' := cells fL (hs3.set i (some ⟨g20, 0, none⟩, b, b))) (.tail (.tail .head)) tI23 rfl rfl rfl rfl (by rw [cells_length fL_len]; have hlt := (show i < hs3.length from (by omega)); simp only [List.length_cons, List.length_nil]; omega) (by simp) (cells_splice fL_len (show i < hs3.length from (by omega)) (some ⟨g20, 0, none⟩, b, b))) rfl rfl (kn0 ?_)
    refine wl_nil ?_
    refine ce_then ?_
    refine cw_seq ?_
    refine ct_put (i := i) (k := b) (.cons (.tail .head) (.cons (.tail .head) (.cons (.head) (.nil)))) (by omega) List.length_replicate (Nat.le_refl _) ?_
    refine cw_region ?_
    refine wl_v (ov_move rfl) rfl rfl rfl ?_
    refine wl_v (ov_move rfl) rfl rfl rfl ?_
    refine ct_fact (nest_facts (List.Mem.head _)) (fun hnf24 => ?_)
    have hnl24 := hnf24.1
    refine wl_v (ov_index (k := i) (c := a) sI33 tI23 rfl rfl (some_holds (q := i * 1) (holds_row (List.Mem.tail _ (List.Mem.head _))) (by rw [cells_length fL_len]; have hlt : i < (hs3.set i (some ⟨g20, 0, none⟩, b, b)).length := (by first | omega | (rw [List.length_set]; omega)); omega)) (show i < a from (by first | omega | (rw [List.length_set]; omega)))) rfl rfl rfl ?_
    refine wl_v (ov_load tI23 (holds_row (List.Mem.tail _ (List.Mem.head _))) rfl (get_fLn hnf24 (show i < (m.set i (List.replicate b 0)).length from (by first | omega | (rw [List.length_set]; omega))))) rfl rfl rfl ?_
    refine wl_v (ov_len (sliceI_spec sI23) rfl) rfl rfl rfl ?_
    refine ct_keep (L' := [(1, .int .i64 (((b : Nat) : Int))), (2, .func (.func Fc) #[] cs.toArray), (6, .slice none (0) (0)), (7, .slice (some ⟨g11, 0, none⟩) (a) (a)), (8, .int .i64 (((i : Nat) : Int))), (13, .int .i64 (((a : Nat) : Int))), (14, .int .i64 (((i : Nat) : Int))), (15, .bool true), (16, .int .i64 (((i : Nat) : Int))), (17, .slice (some ⟨g11, 0, none⟩) (a) (a)), (18, .int .i64 (((i : Nat) : Int))), (19, .int .i64 (((b : Nat) : Int))), (20, .slice (some ⟨g20, 0, none⟩) (b) (b)), (21, elp (some ⟨g11, 0, none⟩) (i * 1)), (22, .slice (some ⟨g11, 0, none⟩) (a) (a)), (23, .int .i64 (((i : Nat) : Int))), (24, elp (some ⟨g11, 0, none⟩) (i * 1)), (25, .slice (((hs3.set i (some ⟨g20, 0, none⟩, b, b)).getD i (none, 0, 0)).1) (((m.set i (List.replicate b 0)).getD i []).length) (((hs3.set i (some ⟨g20, 0, none⟩, b, b)).getD i (none, 0, 0)).2.2)), (26, .int .i64 (((b : Nat) : Int)))]) (.cons rfl (.cons rfl (.cons rfl (.cons rfl (.cons rfl (.cons rfl (.cons rfl (.cons rfl (.cons rfl (.cons rfl (.cons rfl (.cons rfl (.cons rfl (.cons rfl (.cons rfl (.cons rfl (.cons rfl (.cons rfl (.cons (congrArg (fun z => some (Value.int .i64 z)) (show ((((m.set i (List.replicate b 0)).getD i []).length : Nat) : Int) = ((b : Nat) : Int) from (by rw [getD_setM (by omega), if_pos rfl, List.length_replicate]))) (.nil)))))))))))))))))))) .refl ?_
    refine wl_v (ov_move rfl) rfl rfl rfl ?_
    refine wl_nil ?_
    refine ce_then ?_
    refine cw_block ?_
    refine cw_loop2 (fun (k : Nat) (m2 : Mat) => [(1, .int .i64 (((b : Nat) : Int))), (2, .func (.func Fc) #[] cs.toArray), (6, .slice none (0) (0)), (7, .slice (some ⟨g11, 0, none⟩) (a) (a)), (8, .int .i64 (((i : Nat) : Int))), (13, .int .i64 (((a : Nat) : Int))), (14, .int .i64 (((i : Nat) : Int))), (26, .int .i64 (((b : Nat) : Int))), (27, .int .i64 (((k : Nat) : Int)))]) (fun (k : Nat) (m2 : Mat) => [nest 3 1 fI (hs3.set i (some ⟨g20, 0, none⟩, b, b)) m2, row 23 1 (some ⟨g11, 0, none⟩) (a) (a) (cells fL (hs3.set i (some ⟨g20, 0, none⟩, b, b)))]) (fun (k : Nat) (m2 : Mat) => k ≤ b ∧ m2.length = a ∧ (∀ j, j < i → m2.getD j [] = (List.range b).map (T j)) ∧ m2.getD i [] = (List.range k).map (T i) ++ List.replicate (b - k) 0) (fun (k : Nat) (m2 : Mat) => b - k) 0 (m.set i (List.replicate b 0)) ⟨by omega, by rw [List.length_set]; exact hk2, fun j hj => by rw [getD_setM (by omega), if_neg (by omega)]; exact hk3 j hj, by rw [getD_setM (by omega), if_pos rfl]; rfl⟩ (.cons rfl (.cons rfl (.cons rfl (.cons rfl (.cons rfl (.cons rfl (.cons rfl (.cons rfl (.cons (congrArg (fun z => some (Value.int .i64 z)) (show 0 = ((0 : Nat) : Int) by first | omega | rfl | (simp; done))) (.nil)))))))))) (.cons (.head) (.cons (.head) (.nil))) ?_
    intro R1 k m2 hk1 hR1
    obtain ⟨hj1, hj2, hj3, hj4⟩ := hk1
    have hil : (m2.getD i []).length = b := by rw [hj4]; simp; omega
    have hsl : (hs3.set i (some ⟨g20, 0, none⟩, b, b)).length = a := by rw [List.length_set]; exact hk4
    refine cw_seq ?_
    refine cw_region ?_
    refine wl_if (ov_lss rfl rfl) rfl rfl rfl (fun c28 => ?_) (fun c28 => ?_)
    ·
      refine wl_nil ?_
      refine ce_then ?_
      refine cw_seq ?_
      refine cw_true rfl ?_
      refine cw_skip ?_
      refine ce_then ?_
      refine cw_seq ?_
      refine cw_block ?_
      refine cw_seq ?_
      refine cw_region ?_
      refine wl_v (ov_move rfl) rfl rfl rfl ?_
      refine wl_v (ov_assign rfl) rfl rfl rfl ?_
      refine wl_nil ?_
      refine ce_then ?_
      refine cw_draw mixO [10] (.cons (.head) (.cons (.head) (.nil))) rfl ?_
      refine wg_takep (i := 0) rfl (ov_move rfl) rfl rfl rfl (by kernel_rfl) (by kernel_rfl) (by kernel_rfl) rfl ?_
      refine wg_takep (i := 1) rfl (ov_move rfl) rfl rfl rfl (by kernel_rfl) (by kernel_rfl) (by kernel_rfl) rfl ?_
      refine stg_fact (nest_facts (List.Mem.head _)) (fun hnf32 => ?_)
      have hnl32 := hnf32.1
      refine wg_take (i := 2) rfl (ov_index (k := i) (c := a) sI33 tI23 rfl rfl (some_holds (q := i * 1) (holds_row (List.Mem.tail _ (List.Mem.head _))) (by rw [cells_length fL_len]; have hlt : i < (hs3.set i (some ⟨g20, 0, none⟩, b, b)).length := (by first | omega | (rw [List.length_set]; omega)); omega)) (show i < a from (by first | omega | (rw [List.length_set]; omega)))) rfl rfl rfl (by kernel_rfl) (by kernel_rfl) (by kernel_rfl) (by kernel_rfl) ?_
      refine wg_take (i := 3) rfl (ov_load tI23 (holds_row (List.Mem.tail _ (List.Mem.head _))) rfl (get_fLn hnf32 (show i < m2.length from (by first | omega | (rw [List.length_set]; omega))))) rfl rfl rfl (by kernel_rfl) (by kernel_rfl) (by kernel_rfl) (by kernel_rfl) ?_
      refine wg_takep (i := 4) rfl (ov_move rfl) rfl rfl rfl (by kernel_rfl) (by kernel_rfl) (by kernel_rfl) rfl ?_
      refine wg_takep (i := 5) rfl (ov_move rfl) rfl rfl rfl (by kernel_rfl) (by kernel_rfl) (by kernel_rfl) rfl ?_
      refine wg_takep (i := 6) rfl (ov_move rfl) rfl rfl rfl (by kernel_rfl) (by kernel_rfl) (by kernel_rfl) rfl ?_
      refine wg_takep (i := 7) rfl (ov_move rfl) rfl rfl rfl (by kernel_rfl) (by kernel_rfl) (by kernel_rfl) rfl ?_
      refine wg_one (i := 8) (by kernel_rfl) ?_
      refine go_r rfl rfl rfl rfl (or_call (fv := []) (vs := [.int .i64 (((i : Nat) : Int)), .int .i64 (((k : Nat) : Int))]) (cs := cs) hen rfl rfl (call_v (fun w hw => hf i k (by omega) (by omega) w hw.below))) (kt0 rfl ?_)
      refine gk (.cons (.head) (.cons (.head) (.nil))) ?_
      refine wg_take (i := 9) rfl (ov_index (k := k) (c := ((hs3.set i (some ⟨g20, 0, none⟩, b, b)).getD i (none, 0, 0)).2.2) sI23 tI3 rfl rfl (some_holds (q := k * 1) (holds_nest (List.Mem.head _) (show i < m2.length from (by first | omega | (rw [List.length_set]; omega)))) (by rw [cells_length fI_len]; have hlt : k < (m2.getD i []).length := (by omega); omega)) (show k < (m2.getD i []).length from (by omega))) rfl rfl rfl (by kernel_rfl) (by kernel_rfl) (by kernel_rfl) (by kernel_rfl) ?_
      refine wg_one (i := 10) (by kernel_rfl) ?_
      refine go_late0 rfl rfl rfl rfl (or_store_nest (i := i) (q := k) (z := T i k) (.cons (.head) (.cons (.head) (.nil))) hnf32 (show i < m2.length from (by first | omega | (rw [List.length_set]; omega))) (show k < (m2.getD i []).length from (by omega)) tI3 rfl rfl) (kn0 ?_)
      refine wa_done (by kernel_rfl) ?_
      refine ce_block ?_
      refine ce_then ?_
      refine cw_region ?_
      refine wl_v (ov_add (r := ((k + 1 : Nat) : Int)) rfl rfl rfl (by omega)) rfl rfl rfl ?_
      refine wl_v (ov_move rfl) rfl rfl rfl ?_
      refine wl_nil ?_
      exact fun ac_ w_ hs_ => hR1 (k + 1) (m2.set i ((m2.getD i []).set k (T i k))) ⟨by omega, by rw [List.length_set]; exact hj2, fun j hj => by rw [getD_setM (by omega), if_neg (by omega)]; exact hj3 j hj, by rw [getD_setM (by omega), if_pos rfl, hj4, made_step (by omega)]⟩ (by omega) ac_ w_ (hs_.weaken (.cons rfl (.cons rfl (.cons rfl (.cons rfl (.cons rfl (.cons rfl (.cons rfl (.cons rfl (.cons rfl (.nil)))))))))) (.cons (.head) (.cons (.head) (.nil))))
    ·
      refine wl_nil ?_
      refine ce_then ?_
      refine cw_seq ?_
      refine cw_false rfl ?_
      refine cw_exit ?_
      refine ce_then_exit ?_
      refine ce_then_exit ?_
      refine ce_hit ?_
      refine ce_block ?_
      refine ce_then ?_
      refine cw_region ?_
      refine wl_v (ov_add (r := ((i + 1 : Nat) : Int)) rfl rfl rfl (by omega)) rfl rfl rfl ?_
      refine wl_v (ov_move rfl) rfl rfl rfl ?_
      refine wl_nil ?_
      exact fun ac_ w_ hs_ => hR0 (i + 1) (hs3.set i (some ⟨g20, 0, none⟩, b, b)) m2 ⟨⟨by omega, hj2, by rw [List.length_set]; exact hk4⟩, fun j hj => by rcases Nat.lt_succ_iff_lt_or_eq.1 hj with h | rfl; exact hj3 j h; rw [hj4, show b - k = 0 from by omega, List.replicate_zero, List.append_nil, show k = b from by omega]⟩ (by omega) ac_ w_ (hs_.weaken (.cons rfl (.cons rfl (.cons rfl (.cons rfl (.cons rfl (.cons rfl (.nil))))))) (.cons (.head) (.cons (.head) (.nil))))
  ·
    refine wl_nil ?_
    refine ce_then ?_
    refine cw_seq ?_
    refine cw_false rfl ?_
    refine cw_exit ?_
    refine ce_then_exit ?_
    refine ce_then_exit ?_
    refine ce_hit ?_
    refine ce_then ?_
    refine cw_seq ?_
    refine cw_region ?_
    refine wl_v (ov_move rfl) rfl rfl rfl ?_
    refine wl_v (ov_assign rfl) rfl rfl rfl ?_
    refine wl_nil ?_
    refine ce_then ?_
    refine cw_ret ?_
    refine ce_results (v := .slice (some ⟨g11, 0, none⟩) (a) (a)) (res1 rfl (rv_t rfl)) (fun w' hw => ?_)
    exact ⟨some ⟨g11, 0, none⟩, a, hs3, ⟨by rw [tableM_len]; exact Nat.le_refl _, trivial⟩, (by rw [tableM_len]), ((.consE (show row 23 1 (some ⟨g11, 0, none⟩) (a) (a) (cells fL hs3) = row 23 1 (some ⟨g11, 0, none⟩) ((tableM a b T).length) (a) (cells fL hs3) by rw [tableM_len]) (.tail .head) (.consE (show nest 3 1 fI hs3 m = nest 3 1 fI hs3 (tableM a b T) by rw [table_eq (F := T) (b := b) hk2 (fun j hj => hk3 j (by omega))]) (.head) (.nil)) : Keep _ _).ss hw).to_new⟩
set_option maxRecDepth 100000 in
theorem fill1_c (w : World) (i : Int) (k : Int)  : Calls Try.prog 58 #[.int .i64 (i), .int .i64 (k)] w (Ret fun rv w' => rv = .int .i64 (0) ∧ New w w' []) := by
  refine fn_enter (args := [.int .i64 (i), .int .i64 (k)]) Try.func58 rfl Try.ntmps58 rfl (SS.start w) ?_
  refine cw_seq ?_
  refine cw_region ?_
  refine wl_v (ov_assign rfl) rfl rfl rfl ?_
  refine wl_nil ?_
  refine ce_then ?_
  refine cw_seq ?_
  refine cw_region ?_
  refine wl_v (ov_assign rfl) rfl rfl rfl ?_
  refine wl_nil ?_
  refine ce_then ?_
  refine cw_ret ?_
  refine ce_results (v := .int .i64 (0)) (res1 rfl (rv_t rfl)) (fun w' hw => ?_)
  exact ⟨rfl, (Keep.nil.ss hw).to_new⟩
set_option maxRecDepth 100000 in
theorem greatestM_c (w : World) (A : Option Addr) (n : Nat) (c : Nat) (xs : List (Int)) (m : Nat) (hA : At w A (cells fI xs)) (eA : xs.length = n) (lA : n ≤ c) (hs : Small xs) (hm : m ≤ 100) : Calls Try.prog 62 #[.slice A (n) (c), .int .i64 (-1), .int .i64 (((m : Nat) : Int))] w (Ret fun rv w' => ∃ A2 c2, (m ≤ c2) ∧ rv = .slice A2 (m) (c2) ∧ New w w' [row 3 1 A2 (m) (c2) (cells fI (gre xs (-1) m))]) := by
  have oA := hA.atB
  subst eA
  have hlen := hs.1
  refine fn_enter (args := [.slice A (xs.length) (c), .int .i64 (-1), .int .i64 (((m : Nat) : Int))]) Try.func62 rfl Try.ntmps62 rfl (SS.start w) ?_
  refine cw_seq ?_
  refine cw_region ?_
  refine wl_v (ov_assign rfl) rfl rfl rfl ?_
  refine wl_nil ?_
  refine ce_then ?_
  refine cw_seq ?_
  refine cw_region ?_
  refine wl_r (or_buildSlice (e := 3) (size := 1) (is := []) (vs := []) (cs := cells fI ([])) rfl rfl rfl (by decide) (fun _ => by kernel_rfl)) rfl rfl (kt1 rfl (fun g10 => ?_))
  refine wl_v (ov_assign rfl) rfl rfl rfl ?_
  refine wl_nil ?_
  refine ce_then ?_
  refine cw_seq ?_
  refine cw_block ?_
  refine cw_loop3 (fun (k : Nat) (A2 : Option Addr) (c2 : Nat) => [(0, .slice A (xs.length) (c)), (1, .int .i64 (-1)), (2, .int .i64 (((m : Nat) : Int))), (6, .slice none (0) (0)), (7, .slice A2 (k) (c2))]) (fun (k : Nat) (A2 : Option Addr) (c2 : Nat) => [row 3 1 A2 (k) (c2) (cells fI (gre xs (-1) k))]) (fun (k : Nat) (A2 : Option Addr) (c2 : Nat) => k ≤ m ∧ k ≤ c2) (fun (k : Nat) (A2 : Option Addr) (c2 : Nat) => m - k) 0 (some ⟨g10, 0, none⟩) 0 ⟨by omega, Nat.le_refl _⟩ (.cons rfl (.cons rfl (.cons rfl (.cons rfl (.cons rfl (.nil)))))) (.cons (.head) (.nil)) ?_
  intro R0 k A2 c2 hk hR0
  obtain ⟨hk1, hk2⟩ := hk
  refine cw_seq ?_
  refine cw_seq ?_
  refine cw_region ?_
  refine wl_v (ov_move rfl) rfl rfl rfl ?_
  refine wl_v (ov_len (sliceI_spec sI23) rfl) rfl rfl rfl ?_
  refine wl_v (ov_move rfl) rfl rfl rfl ?_
  refine wl_if (ov_lss rfl rfl) rfl rfl rfl (fun c14 => ?_) (fun c14 => ?_)
  ·
    refine wl_nil ?_
    refine ce_then ?_
    refine cw_true rfl ?_
    refine cw_skip ?_
    refine ce_then ?_
    refine cw_block ?_
    refine cw_seq ?_
    refine cw_region ?_
    refine wl_v (ov_assign rfl) rfl rfl rfl ?_
    refine wl_nil ?_
    refine ce_then ?_
    refine cw_seq ?_
    refine cw_seq ?_
    refine cw_region ?_
    refine wl_v (ov_assign rfl) rfl rfl rfl ?_
    refine wl_nil ?_
    refine ce_then ?_
    refine cw_block ?_
    refine cw_loop1 (fun (i : Nat) => [(0, .slice A (xs.length) (c)), (1, .int .i64 (-1)), (2, .int .i64 (((m : Nat) : Int))), (6, .slice none (0) (0)), (7, .slice A2 (k) (c2)), (8, .int .i64 (best xs (gre xs (-1) k) (-1) i)), (9, .int .i64 (((i : Nat) : Int)))]) (fun (i : Nat) => [row 3 1 A2 (k) (c2) (cells fI (gre xs (-1) k))]) (fun (i : Nat) => i ≤ xs.length) (fun (i : Nat) => xs.length - i) 0 (by omega) (.cons rfl (.cons rfl (.cons rfl (.cons rfl (.cons rfl (.cons (congrArg (fun z => some (Value.int .i64 z)) (show (-1) = (best xs (gre xs (-1) k) (-1) 0) from rfl)) (.cons (congrArg (fun z => some (Value.int .i64 z)) (show 0 = ((0 : Nat) : Int) by first | omega | rfl | (simp; done))) (.nil)))))))) (.cons (.head) (.nil)) ?_
    intro R1 i hk1 hR1
    have hb := best_bd xs (gre xs (-1) k) (-1) i
    refine cw_seq ?_
    refine cw_seq ?_
    refine cw_region ?_
    refine wl_v (ov_move rfl) rfl rfl rfl ?_
    refine wl_v (ov_move rfl) rfl rfl rfl ?_
    refine wl_v (ov_len (sliceI_spec sI23) rfl) rfl rfl rfl ?_
    refine wl_if (ov_lss rfl rfl) rfl rfl rfl (fun c18 => ?_) (fun c18 => ?_)
    ·
      refine wl_nil ?_
      refine ce_then ?_
      refine cw_true rfl ?_
      refine cw_skip ?_
      refine ce_then ?_
      refine cw_seq ?_
      refine cw_block ?_
      refine cw_seq ?_
      refine cw_draw mixO [] (.cons (.head) (.nil)) rfl ?_
      refine wg_takep (i := 0) rfl (ov_move rfl) rfl rfl rfl (by kernel_rfl) (by kernel_rfl) (by kernel_rfl) rfl ?_
      refine wg_takep (i := 1) rfl (ov_move rfl) rfl rfl rfl (by kernel_rfl) (by kernel_rfl) (by kernel_rfl) rfl ?_
      refine wg_takep_if (i := 2) rfl (ov_neq rfl rfl) rfl rfl rfl (by kernel_rfl) (by kernel_rfl) (by kernel_rfl) rfl (fun c23 => ?_) (fun c23 => ?_)
      ·
        refine wg_takep (i := 3) rfl (ov_move rfl) rfl rfl rfl (by kernel_rfl) (by kernel_rfl) (by kernel_rfl) rfl ?_
        refine wg_take_go (i := 4) rfl rfl rfl (ov_move rfl) rfl (by kernel_rfl) (by kernel_rfl) (by kernel_rfl) (by kernel_rfl) ?_
        refine wg_take_go (i := 5) rfl rfl rfl (ov_move rfl) rfl (by kernel_rfl) (by kernel_rfl) (by kernel_rfl) (by kernel_rfl) ?_
        refine wg_one (i := 6) (by kernel_rfl) ?_
        refine go_rg rfl rfl rfl rfl (or_call (fv := []) (vs := [.slice A2 (k) (c2), .int .i64 (((i : Nat) : Int))]) (cs := []) en86 rfl rfl (call_v (fun w hw => hasInt_c w A2 k c2 (gre xs (-1) k) ((i : Nat) : Int) ((holds_row (List.Mem.head _)) w hw) (gre_length _ _ _) hk2 (by rw [gre_length]; omega)))) (kt_if rfl (fun c27 => ?_) (fun c27 => ?_))
        ·
          refine gk (.cons (.head) (.nil)) ?_
          refine wg_take_go (i := 7) rfl rfl rfl (ov_not rfl) rfl (by kernel_rfl) (by kernel_rfl) (by kernel_rfl) (by kernel_rfl) ?_
          refine wg_takep (i := 8) rfl (ov_pick_t rfl rfl) rfl rfl rfl (by kernel_rfl) (by kernel_rfl) (by kernel_rfl) rfl ?_
          refine wg_takep (i := 9) rfl (ov_move rfl) rfl rfl rfl (by kernel_rfl) (by kernel_rfl) (by kernel_rfl) rfl ?_
          refine wg_take_not (i := 10) rfl rfl rfl rfl rfl (by kernel_rfl) (by kernel_rfl) (by kernel_rfl) (by kernel_rfl) ?_
          refine wg_take_not (i := 11) rfl rfl rfl rfl rfl (by kernel_rfl) (by kernel_rfl) (by kernel_rfl) (by kernel_rfl) ?_
          refine wg_take_not (i := 12) rfl rfl rfl rfl rfl (by kernel_rfl) (by kernel_rfl) (by kernel_rfl) (by kernel_rfl) ?_
          refine wg_take_notu (i := 13) rfl rfl rfl rfl (by kernel_rfl) (by kernel_rfl) (by kernel_rfl) (by kernel_rfl) ?_
          refine wg_take_notu (i := 14) rfl rfl rfl rfl (by kernel_rfl) (by kernel_rfl) (by kernel_rfl) (by kernel_rfl) ?_
          refine wg_take_notu (i := 15) rfl rfl rfl rfl (by kernel_rfl) (by kernel_rfl) (by kernel_rfl) (by kernel_rfl) ?_
          refine wg_take_notu (i := 16) rfl rfl rfl rfl (by kernel_rfl) (by kernel_rfl) (by kernel_rfl) (by kernel_rfl) ?_
          refine wg_take_notu (i := 17) rfl rfl rfl rfl (by kernel_rfl) (by kernel_rfl) (by kernel_rfl) (by kernel_rfl) ?_
          refine wg_take_notu (i := 18) rfl rfl rfl rfl (by kernel_rfl) (by kernel_rfl) (by kernel_rfl) (by kernel_rfl) ?_
          refine wg_take_notu (i := 19) rfl rfl rfl rfl (by kernel_rfl) (by kernel_rfl) (by kernel_rfl) (by kernel_rfl) ?_
          refine wg_take_notu (i := 20) rfl rfl rfl rfl (by kernel_rfl) (by kernel_rfl) (by kernel_rfl) (by kernel_rfl) ?_
          refine wg_take_notu (i := 21) rfl rfl rfl rfl (by kernel_rfl) (by kernel_rfl) (by kernel_rfl) (by kernel_rfl) ?_
          refine wg_take_not (i := 22) rfl rfl rfl rfl rfl (by kernel_rfl) (by kernel_rfl) (by kernel_rfl) (by kernel_rfl) ?_
          refine wg_takep (i := 23) rfl (ov_pick_f rfl rfl) rfl rfl rfl (by kernel_rfl) (by kernel_rfl) (by kernel_rfl) rfl ?_
          refine wg_done (by kernel_rfl) ?_
          refine ce_then ?_
          refine cw_false rfl ?_
          refine cw_skip ?_
          refine ce_block ?_
          refine ce_then ?_
          refine cw_region ?_
          refine wl_v (ov_move rfl) rfl rfl rfl ?_
          refine wl_v (ov_add (r := ((i + 1 : Nat) : Int)) rfl rfl rfl (by omega)) rfl rfl rfl ?_
          refine wl_v (ov_assign rfl) rfl rfl rfl ?_
          refine wl_nil ?_
          exact fun ac_ w_ hs_ => hR1 (i + 1) (by omega) (by omega) ac_ w_ (hs_.weaken (.cons rfl (.cons rfl (.cons rfl (.cons rfl (.cons rfl (.cons (congrArg (fun z => some (Value.int .i64 z)) (show (best xs (gre xs (-1) k) (-1) i) = (best xs (gre xs (-1) k) (-1) (i + 1)) from (by rw [best, if_neg (fun h => h.2.1 c27)]))) (.cons rfl (.nil)))))))) (.cons (.head) (.nil)))
        ·
          refine gk (.cons (.head) (.nil)) ?_
          refine wg_take_go (i := 7) rfl rfl rfl (ov_not rfl) rfl (by kernel_rfl) (by kernel_rfl) (by kernel_rfl) (by kernel_rfl) ?_
          refine wg_takep (i := 8) rfl (ov_pick_t rfl rfl) rfl rfl rfl (by kernel_rfl) (by kernel_rfl) (by kernel_rfl) rfl ?_
          refine wg_takep (i := 9) rfl (ov_move rfl) rfl rfl rfl (by kernel_rfl) (by kernel_rfl) (by kernel_rfl) rfl ?_
          refine wg_take_go (i := 10) rfl rfl rfl (ov_move rfl) rfl (by kernel_rfl) (by kernel_rfl) (by kernel_rfl) (by kernel_rfl) ?_
          refine wg_take_go_if (i := 11) rfl rfl rfl (ov_lss rfl rfl) rfl (by kernel_rfl) (by kernel_rfl) (by kernel_rfl) (by kernel_rfl) (fun c32 => ?_) (fun c32 => ?_)
          ·
            refine wg_take_go (i := 12) rfl rfl rfl (ov_move rfl) rfl (by kernel_rfl) (by kernel_rfl) (by kernel_rfl) (by kernel_rfl) ?_
            refine wg_take_not (i := 13) rfl rfl rfl rfl rfl (by kernel_rfl) (by kernel_rfl) (by kernel_rfl) (by kernel_rfl) ?_
            refine wg_take_not (i := 14) rfl rfl rfl rfl rfl (by kernel_rfl) (by kernel_rfl) (by kernel_rfl) (by kernel_rfl) ?_
            refine wg_take_not (i := 15) rfl rfl rfl rfl rfl (by kernel_rfl) (by kernel_rfl) (by kernel_rfl) (by kernel_rfl) ?_
            refine wg_take_not (i := 16) rfl rfl rfl rfl rfl (by kernel_rfl) (by kernel_rfl) (by kernel_rfl) (by kernel_rfl) ?_
            refine wg_take_not (i := 17) rfl rfl rfl rfl rfl (by kernel_rfl) (by kernel_rfl) (by kernel_rfl) (by kernel_rfl) ?_
            refine wg_take_not (i := 18) rfl rfl rfl rfl rfl (by kernel_rfl) (by kernel_rfl) (by kernel_rfl) (by kernel_rfl) ?_
            refine wg_take_not (i := 19) rfl rfl rfl rfl rfl (by kernel_rfl) (by kernel_rfl) (by kernel_rfl) (by kernel_rfl) ?_
            refine wg_take_not (i := 20) rfl rfl rfl rfl rfl (by kernel_rfl) (by kernel_rfl) (by kernel_rfl) (by kernel_rfl) ?_
            refine wg_take_not (i := 21) rfl rfl rfl rfl rfl (by kernel_rfl) (by kernel_rfl) (by kernel_rfl) (by kernel_rfl) ?_
            refine wg_take_go (i := 22) rfl rfl rfl (ov_pick_t rfl rfl) rfl (by kernel_rfl) (by kernel_rfl) (by kernel_rfl) (by kernel_rfl) ?_
            refine wg_takep (i := 23) rfl (ov_pick_t rfl rfl) rfl rfl rfl (by kernel_rfl) (by kernel_rfl) (by kernel_rfl) rfl ?_
            refine wg_done (by kernel_rfl) ?_
            refine ce_then ?_
            refine cw_true rfl ?_
            refine cw_region ?_
            refine wl_v (ov_move rfl) rfl rfl rfl ?_
            refine wl_v (ov_assign rfl) rfl rfl rfl ?_
            refine wl_nil ?_
            refine ce_block ?_
            refine ce_then ?_
            refine cw_region ?_
            refine wl_v (ov_move rfl) rfl rfl rfl ?_
            refine wl_v (ov_add (r := ((i + 1 : Nat) : Int)) rfl rfl rfl (by omega)) rfl rfl rfl ?_
            refine wl_v (ov_assign rfl) rfl rfl rfl ?_
            refine wl_nil ?_
            exact fun ac_ w_ hs_ => hR1 (i + 1) (by omega) (by omega) ac_ w_ (hs_.weaken (.cons rfl (.cons rfl (.cons rfl (.cons rfl (.cons rfl (.cons (congrArg (fun z => some (Value.int .i64 z)) (show ((i : Nat) : Int) = (best xs (gre xs (-1) k) (-1) (i + 1)) from (by rw [best, if_pos ⟨by omega, c27, .inl c32⟩]))) (.cons rfl (.nil)))))))) (.cons (.head) (.nil)))
          ·
            refine wg_take_go (i := 12) rfl rfl rfl (ov_move rfl) rfl (by kernel_rfl) (by kernel_rfl) (by kernel_rfl) (by kernel_rfl) ?_
            refine wg_take_go (i := 13) rfl rfl rfl (ov_move rfl) rfl (by kernel_rfl) (by kernel_rfl) (by kernel_rfl) (by kernel_rfl) ?_
            refine wg_take_go (i := 14) rfl rfl rfl (ov_move rfl) rfl (by kernel_rfl) (by kernel_rfl) (by kernel_rfl) (by kernel_rfl) ?_
            refine wg_take_go (i := 15) rfl rfl rfl (ov_index (k := i) (c := c) sI23 tI3 rfl rfl (some_holds (q := i * 1) (holds_old oA) (by rw [cells_length fI_len]; have hlt : i < xs.length := (by first | omega | (simp; omega)); omega)) (show i < xs.length from (by first | omega | (simp; omega)))) rfl (by kernel_rfl) (by kernel_rfl) (by kernel_rfl) (by kernel_rfl) ?_
            refine wg_take_go (i := 16) rfl rfl rfl (ov_load tI3 (holds_old oA) rfl (get_fI (show i < xs.length from (by first | omega | (simp; omega))))) rfl (by kernel_rfl) (by kernel_rfl) (by kernel_rfl) (by kernel_rfl) ?_
            refine wg_take_go (i := 17) rfl rfl rfl (ov_move rfl) rfl (by kernel_rfl) (by kernel_rfl) (by kernel_rfl) (by kernel_rfl) ?_
            refine wg_take_go (i := 18) rfl rfl rfl (ov_move rfl) rfl (by kernel_rfl) (by kernel_rfl) (by kernel_rfl) (by kernel_rfl) ?_
            refine wg_take_go (i := 19) rfl rfl rfl (ov_indexg sI23 tI3 rfl rfl (some_holds (q := ((best xs (gre xs (-1) k) (-1) i).toNat) * 1) (holds_old oA) (by rw [cells_length fI_len]; have hlt : (best xs (gre xs (-1) k) (-1) i).toNat < xs.length := (by omega); omega)) (by omega) (show (best xs (gre xs (-1) k) (-1) i).toNat < xs.length from (by omega))) rfl (by kernel_rfl) (by kernel_rfl) (by kernel_rfl) (by kernel_rfl) ?_
            refine wg_take_go (i := 20) rfl rfl rfl (ov_load tI3 (holds_old oA) rfl (get_fI (show (best xs (gre xs (-1) k) (-1) i).toNat < xs.length from (by omega)))) rfl (by kernel_rfl) (by kernel_rfl) (by kernel_rfl) (by kernel_rfl) ?_
            refine wg_take_go_if (i := 21) rfl rfl rfl (ov_gtr rfl rfl) rfl (by kernel_rfl) (by kernel_rfl) (by kernel_rfl) (by kernel_rfl) (fun c42 => ?_) (fun c42 => ?_)
            ·
              refine wg_take_go (i := 22) rfl rfl rfl (ov_pick_f rfl rfl) rfl (by kernel_rfl) (by kernel_rfl) (by kernel_rfl) (by kernel_rfl) ?_
              refine wg_takep (i := 23) rfl (ov_pick_t rfl rfl) rfl rfl rfl (by kernel_rfl) (by kernel_rfl) (by kernel_rfl) rfl ?_
              refine wg_done (by kernel_rfl) ?_
              refine ce_then ?_
              refine cw_true rfl ?_
              refine cw_region ?_
              refine wl_v (ov_move rfl) rfl rfl rfl ?_
              refine wl_v (ov_assign rfl) rfl rfl rfl ?_
              refine wl_nil ?_
              refine ce_block ?_
              refine ce_then ?_
              refine cw_region ?_
              refine wl_v (ov_move rfl) rfl rfl rfl ?_
              refine wl_v (ov_add (r := ((i + 1 : Nat) : Int)) rfl rfl rfl (by omega)) rfl rfl rfl ?_
              refine wl_v (ov_assign rfl) rfl rfl rfl ?_
              refine wl_nil ?_
              exact fun ac_ w_ hs_ => hR1 (i + 1) (by omega) (by omega) ac_ w_ (hs_.weaken (.cons rfl (.cons rfl (.cons rfl (.cons rfl (.cons rfl (.cons (congrArg (fun z => some (Value.int .i64 z)) (show ((i : Nat) : Int) = (best xs (gre xs (-1) k) (-1) (i + 1)) from (by rw [best, if_pos ⟨by omega, c27, .inr c42⟩]))) (.cons rfl (.nil)))))))) (.cons (.head) (.nil)))
            ·
              refine wg_take_go (i := 22) rfl rfl rfl (ov_pick_f rfl rfl) rfl (by kernel_rfl) (by kernel_rfl) (by kernel_rfl) (by kernel_rfl) ?_
              refine wg_takep (i := 23) rfl (ov_pick_t rfl rfl) rfl rfl rfl (by kernel_rfl) (by kernel_rfl) (by kernel_rfl) rfl ?_
              refine wg_done (by kernel_rfl) ?_
              refine ce_then ?_
              refine cw_false rfl ?_
              refine cw_skip ?_
              refine ce_block ?_
              refine ce_then ?_
              refine cw_region ?_
              refine wl_v (ov_move rfl) rfl rfl rfl ?_
              refine wl_v (ov_add (r := ((i + 1 : Nat) : Int)) rfl rfl rfl (by omega)) rfl rfl rfl ?_
              refine wl_v (ov_assign rfl) rfl rfl rfl ?_
              refine wl_nil ?_
              exact fun ac_ w_ hs_ => hR1 (i + 1) (by omega) (by omega) ac_ w_ (hs_.weaken (.cons rfl (.cons rfl (.cons rfl (.cons rfl (.cons rfl (.cons (congrArg (fun z => some (Value.int .i64 z)) (show (best xs (gre xs (-1) k) (-1) i) = (best xs (gre xs (-1) k) (-1) (i + 1)) from (by rw [best, if_neg (fun h => h.2.2.elim c32 c42)]))) (.cons rfl (.nil)))))))) (.cons (.head) (.nil)))
      ·
        refine wg_takep (i := 3) rfl (ov_move rfl) rfl rfl rfl (by kernel_rfl) (by kernel_rfl) (by kernel_rfl) rfl ?_
        refine wg_take_not (i := 4) rfl rfl rfl rfl rfl (by kernel_rfl) (by kernel_rfl) (by kernel_rfl) (by kernel_rfl) ?_
        refine wg_take_not (i := 5) rfl rfl rfl rfl rfl (by kernel_rfl) (by kernel_rfl) (by kernel_rfl) (by kernel_rfl) ?_
        refine wg_take_not (i := 6) rfl rfl rfl rfl rfl (by kernel_rfl) (by kernel_rfl) (by kernel_rfl) (by kernel_rfl) ?_
        refine wg_take_not (i := 7) rfl rfl rfl rfl rfl (by kernel_rfl) (by kernel_rfl) (by kernel_rfl) (by kernel_rfl) ?_
        refine wg_takep (i := 8) rfl (ov_pick_f rfl rfl) rfl rfl rfl (by kernel_rfl) (by kernel_rfl) (by kernel_rfl) rfl ?_
        refine wg_takep (i := 9) rfl (ov_move rfl) rfl rfl rfl (by kernel_rfl) (by kernel_rfl) (by kernel_rfl) rfl ?_
        refine wg_take_not (i := 10) rfl rfl rfl rfl rfl (by kernel_rfl) (by kernel_rfl) (by kernel_rfl) (by kernel_rfl) ?_
        refine wg_take_not (i := 11) rfl rfl rfl rfl rfl (by kernel_rfl) (by kernel_rfl) (by kernel_rfl) (by kernel_rfl) ?_
        refine wg_take_not (i := 12) rfl rfl rfl rfl rfl (by kernel_rfl) (by kernel_rfl) (by kernel_rfl) (by kernel_rfl) ?_
        refine wg_take_notu (i := 13) rfl rfl rfl rfl (by kernel_rfl) (by kernel_rfl) (by kernel_rfl) (by kernel_rfl) ?_
        refine wg_take_notu (i := 14) rfl rfl rfl rfl (by kernel_rfl) (by kernel_rfl) (by kernel_rfl) (by kernel_rfl) ?_
        refine wg_take_notu (i := 15) rfl rfl rfl rfl (by kernel_rfl) (by kernel_rfl) (by kernel_rfl) (by kernel_rfl) ?_
        refine wg_take_notu (i := 16) rfl rfl rfl rfl (by kernel_rfl) (by kernel_rfl) (by kernel_rfl) (by kernel_rfl) ?_
        refine wg_take_notu (i := 17) rfl rfl rfl rfl (by kernel_rfl) (by kernel_rfl) (by kernel_rfl) (by kernel_rfl) ?_
        refine wg_take_notu (i := 18) rfl rfl rfl rfl (by kernel_rfl) (by kernel_rfl) (by kernel_rfl) (by kernel_rfl) ?_
        refine wg_take_notu (i := 19) rfl rfl rfl rfl (by kernel_rfl) (by kernel_rfl) (by kernel_rfl) (by kernel_rfl) ?_
        refine wg_take_notu (i := 20) rfl rfl rfl rfl (by kernel_rfl) (by kernel_rfl) (by kernel_rfl) (by kernel_rfl) ?_
        refine wg_take_notu (i := 21) rfl rfl rfl rfl (by kernel_rfl) (by kernel_rfl) (by kernel_rfl) (by kernel_rfl) ?_
        refine wg_take_not (i := 22) rfl rfl rfl rfl rfl (by kernel_rfl) (by kernel_rfl) (by kernel_rfl) (by kernel_rfl) ?_
        refine wg_takep (i := 23) rfl (ov_pick_f rfl rfl) rfl rfl rfl (by kernel_rfl) (by kernel_rfl) (by kernel_rfl) rfl ?_
        refine wg_done (by kernel_rfl) ?_
        refine ce_then ?_
        refine cw_false rfl ?_
        refine cw_skip ?_
        refine ce_block ?_
        refine ce_then ?_
        refine cw_region ?_
        refine wl_v (ov_move rfl) rfl rfl rfl ?_
        refine wl_v (ov_add (r := ((i + 1 : Nat) : Int)) rfl rfl rfl (by omega)) rfl rfl rfl ?_
        refine wl_v (ov_assign rfl) rfl rfl rfl ?_
        refine wl_nil ?_
        exact fun ac_ w_ hs_ => hR1 (i + 1) (by omega) (by omega) ac_ w_ (hs_.weaken (.cons rfl (.cons rfl (.cons rfl (.cons rfl (.cons rfl (.cons (congrArg (fun z => some (Value.int .i64 z)) (show (best xs (gre xs (-1) k) (-1) i) = (best xs (gre xs (-1) k) (-1) (i + 1)) from (by rw [best, if_neg (fun h => c23 h.1)]))) (.cons rfl (.nil)))))))) (.cons (.head) (.nil)))
    ·
      refine wl_nil ?_
      refine ce_then ?_
      refine cw_false rfl ?_
      refine cw_exit ?_
      refine ce_then_exit ?_
      refine ce_then_exit ?_
      refine ce_hit ?_
      refine ce_then ?_
      refine cw_region ?_
      refine wl_v (ov_move rfl) rfl rfl rfl ?_
      refine wl_v (ov_move rfl) rfl rfl rfl ?_
      refine wl_r (or_buildSlice (e := 3) (size := 1) (is := [0]) (vs := [.int .i64 (best xs (gre xs (-1) k) (-1) i)]) (cs := cells fI ([best xs (gre xs (-1) k) (-1) i])) rfl rfl rfl (by decide) (fun _ => by kernel_rfl)) rfl rfl (kt1 rfl (fun g48 => ?_))
      refine wl_r (or_append (c2 := 1) sI23 tI3 rfl (by decide) rfl rfl (.tail .head) (holds_row (List.Mem.head _)) (by rw [cells_length fI_len]; try simp) (one_cells fI_one _) cells_append (by omega) (by omega)) rfl rfl (kt2p rfl (fun A49 c49 h49 => ?_))
      refine wl_v (ov_assign rfl) rfl rfl rfl ?_
      refine wl_nil ?_
      refine ce_block ?_
      exact fun ac_ w_ hs_ => hR0 (k + 1) A49 c49 ⟨by omega, h49⟩ (by omega) ac_ w_ (hs_.weaken (.cons rfl (.cons rfl (.cons rfl (.cons rfl (.cons rfl (.nil)))))) (.consE (show row 3 1 A49 (k + 1) (c49) (cells fI ((gre xs (-1) k) ++ ([best xs (gre xs (-1) k) (-1) i]))) = row 3 1 A49 ((k + 1)) (c49) (cells fI (gre xs (-1) (k + 1))) by rw [gre, show i = xs.length from by omega]) (.head) (.nil)))
  ·
    refine wl_nil ?_
    refine ce_then ?_
    refine cw_false rfl ?_
    refine cw_exit ?_
    refine ce_then_exit ?_
    refine ce_then_exit ?_
    refine ce_hit ?_
    refine ce_then ?_
    refine cw_seq ?_
    refine cw_region ?_
    refine wl_v (ov_move rfl) rfl rfl rfl ?_
    refine wl_v (ov_assign rfl) rfl rfl rfl ?_
    refine wl_nil ?_
    refine ce_then ?_
    refine cw_ret ?_
    refine ce_results (v := .slice A2 (k) (c2)) (res1 rfl (rv_t rfl)) (fun w' hw => ?_)
    exact ⟨A2, c2, (by omega), (by rw [show k = m from by omega]), ((.consE (show row 3 1 A2 (k) (c2) (cells fI (gre xs (-1) k)) = row 3 1 A2 (m) (c2) (cells fI (gre xs (-1) m)) by rw [show k = m from by omega]) (.head) (.nil) : Keep _ _).ss hw).to_new⟩
set_option maxRecDepth 100000 in
theorem FillI_c (w : World) (A : Option Addr) (n : Nat) (c : Nat) (xs : List (Int)) (A2 : Option Addr) (n2 : Nat) (c2 : Nat) (ys : List (Int)) (hA : At w A (cells fI xs)) (eA : xs.length = n) (lA : n ≤ c) (hA2 : At w A2 (cells fI ys)) (eA2 : ys.length = n2) (lA2 : n2 ≤ c2) (hs : xs.length ≤ 1048576 ∧ ys.length ≤ 1048576) : Calls Try.prog 25 #[.slice A (n) (c), .slice A2 (n2) (c2)] w (Ret fun rv w' => ∃ A2 k2 c2 hs2, ((fillV xs ys).1.length ≤ k2) ∧ rv = .tuple #[.slice A2 ((fillV xs ys).1.length) (k2), .bool ((fillV xs ys).2)] ∧ New w w' [row 23 1 A2 ((fillV xs ys).1.length) (c2) (cells fL hs2), nest 3 1 fI hs2 ((fillV xs ys).1)]) := by
  have oA := hA.atB
  subst eA
  have oA2 := hA2.atB
  subst eA2
  refine fn_enter (args := [.slice A (xs.length) (c), .slice A2 (ys.length) (c2)]) Try.func25 rfl Try.ntmps25 rfl (SS.start w) ?_
  refine cw_seq ?_
  refine cw_region ?_
  refine wl_v (ov_assign rfl) rfl rfl rfl ?_
  refine wl_v (ov_assign rfl) rfl rfl rfl ?_
  refine wl_nil ?_
  refine ce_then ?_
  refine cw_seq ?_
  refine cw_seq ?_
  refine cw_region ?_
  refine wl_v (ov_move rfl) rfl rfl rfl ?_
  refine wl_v (ov_move rfl) rfl rfl rfl ?_
  refine wl_r (or_call (fv := []) (vs := [.slice A (xs.length) (c), .slice A2 (ys.length) (c2)]) (cs := []) en10 rfl rfl (call_v (fun w hw => validMI_c w A xs.length c xs A2 ys.length c2 ys ((holds_old oA) w hw) rfl lA ((holds_old oA2) w hw) rfl lA2 (by first | assumption | omega | (simp; omega))))) rfl rfl (kt_if rfl (fun c14 => ?_) (fun c14 => ?_))
  ·
    have hV1 := c14.1
    have hV2 := c14.2.1
    refine wl_v (ov_not rfl) rfl rfl rfl ?_
    refine wl_nil ?_
    refine ce_then ?_
    refine cw_false rfl ?_
    refine cw_skip ?_
    refine ce_then ?_
    refine cw_seq ?_
    refine cw_region ?_
    refine wl_v (ov_move rfl) rfl rfl rfl ?_
    refine wl_r (or_call (fv := []) (vs := [.slice A2 (ys.length) (c2)]) (cs := []) en56 rfl rfl (call_x2 (fun w hw => cloneC_c w A2 ys.length c2 ys ((holds_old oA2) w hw) rfl lA2 (by first | assumption | omega | (simp; omega))))) rfl rfl (kt2p rfl (fun A2_17 c2_17 h_17 => ?_))
    refine wl_v (ov_assign rfl) rfl rfl rfl ?_
    refine wl_nil ?_
    refine ce_then ?_
    refine cw_seq ?_
    refine cw_region ?_
    refine wl_v (ov_move rfl) rfl rfl rfl ?_
    refine wl_v (ov_len (sliceI_spec sI23) rfl) rfl rfl rfl ?_
    refine wl_v (ov_move rfl) rfl rfl rfl ?_
    refine wl_v (ov_len (sliceI_spec sI23) rfl) rfl rfl rfl ?_
    refine wl_r (or_call (fv := []) (vs := [.int .i64 (((xs.length : Nat) : Int)), .int .i64 (((ys.length : Nat) : Int)), .func (.func 58) #[] #[]]) (cs := []) en57 rfl rfl (call_x3 (fun w hw => table_c w xs.length ys.length 58 ([]) (fun _ _ => 0) (by first | assumption | omega | (simp; omega)) en58 (fun i k hi hk w' hb => fill1_c w' _ _)))) rfl rfl (kt3p rfl (fun A2_22 c2_22 hs2_22 h_22 => ?_))
    have htl := tableM_len xs.length ys.length (fun _ _ => 0)
    refine wl_v (ov_assign rfl) rfl rfl rfl ?_
    refine wl_nil ?_
    refine ce_then ?_
    refine cw_seq ?_
    refine cw_seq ?_
    refine cw_region ?_
    refine wl_v (ov_move rfl) rfl rfl rfl ?_
    refine wl_v (ov_len (sliceI_spec sI23) rfl) rfl rfl rfl ?_
    refine wl_v (ov_move rfl) rfl rfl rfl ?_
    refine wl_nil ?_
    refine ce_then ?_
    refine cw_block ?_
    refine cw_loop2 (fun (i : Nat) (m : Mat) => [(1, .slice A2 (ys.length) (c2)), (6, .slice A2_17 (ys.length) (ys.length)), (7, .slice A2_22 ((tableM xs.length ys.length (fun _ _ => 0)).length) (c2_22)), (23, .slice A (xs.length) (c)), (24, .int .i64 (((xs.length : Nat) : Int))), (25, .int .i64 (((i : Nat) : Int)))]) (fun (i : Nat) (m : Mat) => [row 23 1 A2_22 ((tableM xs.length ys.length (fun _ _ => 0)).length) (c2_22) (cells fL hs2_22), nest 3 1 fI hs2_22 m, row 3 1 A2_17 (ys.length) (c2_17) (cells fI (lefts xs ys i))]) (fun (i : Nat) (m : Mat) => i ≤ xs.length ∧ goodTo xs ys i = true ∧ m.length = xs.length ∧ ∀ j, j < xs.length → m.getD j [] = if j < i then ones ys.length (pickL xs ys j) else List.replicate ys.length 0) (fun (i : Nat) (m : Mat) => xs.length - i) 0 (tableM xs.length ys.length (fun _ _ => 0)) ⟨by omega, rfl, tableM_len _ _ _, fun j hj => by rw [tableM_get hj, if_neg (Nat.not_lt_zero _), zeros_row]⟩ (.cons rfl (.cons rfl (.cons rfl (.cons rfl (.cons rfl (.cons (congrArg (fun z => some (Value.int .i64 z)) (show 0 = ((0 : Nat) : Int) by first | omega | rfl | (simp; done))) (.nil))))))) (.cons (.head) (.cons (.head) (.consE (show row 3 1 A2_17 (ys.length) (c2_17) (cells fI ys) = row 3 1 A2_17 (ys.length) (c2_17) (cells fI (lefts xs ys 0)) by rfl) (.head) (.nil)))) ?_
    intro R0 i m hk hR0
    obtain ⟨hk1, hgd, hk3, hk4⟩ := hk
    refine cw_seq ?_
    refine cw_region ?_
    refine wl_if (ov_lss rfl rfl) rfl rfl rfl (fun c26 => ?_) (fun c26 => ?_)
    ·
      refine wl_nil ?_
      refine ce_then ?_
      refine cw_seq ?_
      refine cw_true rfl ?_
      refine cw_skip ?_
      refine ce_then ?_
      refine cw_seq ?_
      refine cw_block ?_
      refine cw_seq ?_
      refine cw_region ?_
      refine wl_v (ov_move rfl) rfl rfl rfl ?_
      have hpf := pick_fact c14 (i := i) (by omega)
      have hpl := pickL_len xs ys i
      have hll := lefts_len xs ys i
      have hri := c14.2.2.1 _ (getD_mem (xs := xs) (k := i) 0 (by omega))
      have hlb := lefts_bd c14 (i := i) (by omega) hgd
      have hls := lefts_small c14 (i := i) (by omega) hgd
      refine wl_v (ov_index (k := i) (c := c) sI23 tI3 rfl rfl (some_holds (q := i * 1) (holds_old oA) (by rw [cells_length fI_len]; have hlt : i < xs.length := (by omega); omega)) (show i < xs.length from (by omega))) rfl rfl rfl ?_
      refine wl_v (ov_load tI3 (holds_old oA) rfl ((get_fI (show i < xs.length from (by omega))).trans (congrArg (fun z => some (Value.int .i64 z)) (show (xs.getD i 0) = (((xs.getD i 0).toNat : Nat) : Int) from (Int.toNat_of_nonneg hri.1).symm)))) rfl rfl rfl ?_
      refine wl_v (ov_assign rfl) rfl rfl rfl ?_
      refine wl_v (ov_assign rfl) rfl rfl rfl ?_
      refine wl_nil ?_
      refine ce_then ?_
      refine cw_seq ?_
      refine cw_region ?_
      refine wl_v (ov_move rfl) rfl rfl rfl ?_
      refine wl_v (ov_move rfl) rfl rfl rfl ?_
      refine wl_v (ov_len (sliceI_spec sI23) rfl) rfl rfl rfl ?_
      refine wl_r (or_call (fv := []) (vs := [.int .i64 (((ys.length : Nat) : Int)), .int .i64 (-1)]) (cs := []) en60 rfl rfl (call_x2 (fun w hw => indices_c w ys.length (-1) (by omega)))) rfl rfl (kt2p rfl (fun A2_33 c2_33 h_33 => ?_))
      refine wl_v (ov_move rfl) rfl rfl rfl ?_
      refine wl_r (or_call (fv := []) (vs := [.slice A2_17 (ys.length) (ys.length), .slice A2_33 ((idx ys.length (-1)).length) (c2_33), .int .i64 ((((xs.getD i 0).toNat : Nat) : Int))]) (cs := []) en59 rfl rfl (call_x2 (fun w hw => greatestI_c w A2_17 ys.length ys.length (lefts xs ys i) A2_33 ((idx ys.length (-1)).length) c2_33 (idx ys.length (-1)) ((xs.getD i 0).toNat) ((holds_row (List.Mem.tail _ (List.Mem.tail _ (List.Mem.tail _ (List.Mem.head _))))) w hw) hll (Nat.le_refl _) ((holds_row (List.Mem.head _)) w hw) rfl h_33 hls (by rw [idx_all]; omega) (fun y hy => by have h9 := idx_mem.1 hy; omega) (by rw [idx_all]; omega)))) rfl rfl (kt2p rfl (fun A2_35 c2_35 h_35 => ?_))
      refine ct_first (k := (xs.getD i 0).toNat) (.cons (.head) (.cons (.head) (.cons (.head) (.cons (.head) (.cons (.head) (.nil)))))) fI_len (by rw [idx_all]; omega) ?_
      refine ct_keep (L' := [(1, .slice A2 (ys.length) (c2)), (6, .slice A2_17 (ys.length) (ys.length)), (7, .slice A2_22 ((tableM xs.length ys.length (fun _ _ => 0)).length) (c2_22)), (8, .int .i64 (((i : Nat) : Int))), (9, .int .i64 ((((xs.getD i 0).toNat : Nat) : Int))), (23, .slice A (xs.length) (c)), (24, .int .i64 (((xs.length : Nat) : Int))), (25, .int .i64 (((i : Nat) : Int))), (26, .bool true), (27, .int .i64 (((i : Nat) : Int))), (28, elp A (i * 1)), (29, .int .i64 ((((xs.getD i 0).toNat : Nat) : Int))), (30, .slice A2_17 (ys.length) (ys.length)), (31, .slice A2 (ys.length) (c2)), (32, .int .i64 (((ys.length : Nat) : Int))), (33, .slice A2_33 ((idx ys.length (-1)).length) (c2_33)), (34, .int .i64 ((((xs.getD i 0).toNat : Nat) : Int))), (35, .slice A2_35 (((xs.getD i 0).toNat)) (((idx ys.length (-1)).length)))]) (.cons rfl (.cons rfl (.cons rfl (.cons rfl (.cons rfl (.cons rfl (.cons rfl (.cons rfl (.cons rfl (.cons rfl (.cons rfl (.cons rfl (.cons rfl (.cons rfl (.cons rfl (.cons rfl (.cons rfl (.cons rfl (.nil))))))))))))))))))) (.consE (show row 3 1 A2_35 ((xs.getD i 0).toNat) (c2_35) (cells fI ((isort 0 (ltOf (byDeg (lefts xs ys i))) (idx ys.length (-1))).take ((xs.getD i 0).toNat))) = row 3 1 A2_35 ((xs.getD i 0).toNat) (c2_35) (cells fI (pickL xs ys i)) by rw [hpf.2.1]) (.head) (.cons (.head) (.cons (.head) (.cons (.head) (.cons (.head) (.nil)))))) ?_
      refine wl_v (ov_len (sliceI_spec sI23) rfl) rfl rfl rfl ?_
      refine wl_v (ov_move rfl) rfl rfl rfl ?_
      refine wl_nil ?_
      refine ce_then ?_
      refine cw_block ?_
      refine cw_loop2 (fun (q : Nat) (m2 : Mat) => [(1, .slice A2 (ys.length) (c2)), (6, .slice A2_17 (ys.length) (ys.length)), (7, .slice A2_22 ((tableM xs.length ys.length (fun _ _ => 0)).length) (c2_22)), (8, .int .i64 (((i : Nat) : Int))), (23, .slice A (xs.length) (c)), (24, .int .i64 (((xs.length : Nat) : Int))), (25, .int .i64 (((i : Nat) : Int))), (35, .slice A2_35 (((xs.getD i 0).toNat)) (((idx ys.length (-1)).length))), (36, .int .i64 (((((xs.getD i 0).toNat) : Nat) : Int))), (37, .int .i64 (((q : Nat) : Int)))]) (fun (q : Nat) (m2 : Mat) => [row 3 1 A2_35 ((xs.getD i 0).toNat) (c2_35) (cells fI (pickL xs ys i)), row 3 1 A2_33 ((idx ys.length (-1)).length) (c2_33) (cells fI (idx ys.length (-1))), row 23 1 A2_22 ((tableM xs.length ys.length (fun _ _ => 0)).length) (c2_22) (cells fL hs2_22), nest 3 1 fI hs2_22 m2, row 3 1 A2_17 (ys.length) (c2_17) (cells fI (decs (lefts xs ys i) ((pickL xs ys i).take q)))]) (fun (q : Nat) (m2 : Mat) => q ≤ (xs.getD i 0).toNat ∧ m2.length = xs.length ∧ (∀ j, j < xs.length → j ≠ i → m2.getD j [] = if j < i then ones ys.length (pickL xs ys j) else List.replicate ys.length 0) ∧ m2.getD i [] = ones ys.length ((pickL xs ys i).take q) ∧ ∀ x ∈ (pickL xs ys i).take q, (lefts xs ys i).getD x.toNat 0 ≠ 0) (fun (q : Nat) (m2 : Mat) => (xs.getD i 0).toNat - q) 0 m ⟨by omega, hk3, fun j hj _ => hk4 j hj, by rw [hk4 i (by omega), if_neg (by omega)]; rfl, fun x hx => by simp at hx⟩ (.cons rfl (.cons rfl (.cons rfl (.cons rfl (.cons rfl (.cons rfl (.cons rfl (.cons rfl (.cons rfl (.cons (congrArg (fun z => some (Value.int .i64 z)) (show 0 = ((0 : Nat) : Int) by first | omega | rfl | (simp; done))) (.nil))))))))))) (.cons (.head) (.cons (.head) (.cons (.head) (.cons (.head) (.consE (show row 3 1 A2_17 (ys.length) (c2_17) (cells fI (lefts xs ys i)) = row 3 1 A2_17 (ys.length) (c2_17) (cells fI (decs (lefts xs ys i) ((pickL xs ys i).take 0))) by rfl) (.head) (.nil)))))) ?_
      intro R1 q m2 hk1 hR1
      obtain ⟨hm1, hm2, hm3, hm4, hm5⟩ := hk1
      refine cw_seq ?_
      refine cw_region ?_
      refine wl_if (ov_lss rfl rfl) rfl rfl rfl (fun c38 => ?_) (fun c38 => ?_)
      ·
        refine wl_nil ?_
        refine ce_then ?_
        refine cw_seq ?_
        refine cw_true rfl ?_
        refine cw_skip ?_
        refine ce_then ?_
        refine cw_seq ?_
        refine cw_block ?_
        refine cw_seq ?_
        refine cw_region ?_
        refine wl_v (ov_index (k := q) (c := ((idx ys.length (-1)).length)) sI23 tI3 rfl rfl (some_holds (q := q * 1) (holds_row (List.Mem.head _)) (by rw [cells_length fI_len]; have hlt : q < (pickL xs ys i).length := (by omega); omega)) (show q < ((xs.getD i 0).toNat) from (by omega))) rfl rfl rfl ?_
        refine wl_v (ov_load tI3 (holds_row (List.Mem.head _)) rfl (get_fI (show q < (pickL xs ys i).length from (by omega)))) rfl rfl rfl ?_
        have hxb := hpf.2.2.2 _ (getD_mem (xs := pickL xs ys i) (k := q) 0 (by omega))
        have hdn := decs_next (d := lefts xs ys i) (os := pickL xs ys i) hpf.2.2.1 (by rw [hll]; exact hpf.2.2.2) (q := q) (by omega)
        have hdl : (decs (lefts xs ys i) ((pickL xs ys i).take q)).length = ys.length := by rw [decs_length, hll]
        have hdb := decs_bd5 hlb hpf.2.2.1 (by rw [hll]; exact hpf.2.2.2) q
        refine wl_v (ov_assign rfl) rfl rfl rfl ?_
        refine wl_nil ?_
        refine ce_then ?_
        refine cw_seq ?_
        refine cw_seq ?_
        refine cw_region ?_
        refine wl_v (ov_move rfl) rfl rfl rfl ?_
        refine wl_v (ov_move rfl) rfl rfl rfl ?_
        refine wl_v (ov_indexg sI23 tI3 rfl rfl (some_holds (q := (((pickL xs ys i).getD q 0).toNat) * 1) (holds_row (List.Mem.tail _ (List.Mem.tail _ (List.Mem.tail _ (List.Mem.tail _ (List.Mem.head _)))))) (by rw [cells_length fI_len]; have hlt : ((pickL xs ys i).getD q 0).toNat < (decs (lefts xs ys i) ((pickL xs ys i).take q)).length := (by omega); omega)) (by omega) (show ((pickL xs ys i).getD q 0).toNat < ys.length from (by omega))) rfl rfl rfl ?_
        refine wl_v (ov_load tI3 (holds_row (List.Mem.tail _ (List.Mem.tail _ (List.Mem.tail _ (List.Mem.tail _ (List.Mem.head _)))))) rfl (get_fI (show ((pickL xs ys i).getD q 0).toNat < (decs (lefts xs ys i) ((pickL xs ys i).take q)).length from (by omega)))) rfl rfl rfl ?_
        refine wl_if (ov_eql rfl rfl) rfl rfl rfl (fun c45 => ?_) (fun c45 => ?_)
        ·
          have hv : fillV xs ys = ([], false) := fillV_bad (i := i) (by omega) (fun h => by have h9 := List.all_eq_true.1 h _ (getD_mem (xs := pickL xs ys i) (k := q) 0 (by omega)); simp only [ne_eq, decide_eq_true_eq] at h9; omega)
          refine ct_none fL 23 1 ?_
          refine ct_nest0 3 1 fI ?_
          refine wl_nil ?_
          refine ce_then ?_
          refine cw_true rfl ?_
          refine cw_seq ?_
          refine cw_region ?_
          refine wl_v (ov_assign rfl) rfl rfl rfl ?_
          refine wl_v (ov_assign rfl) rfl rfl rfl ?_
          refine wl_nil ?_
          refine ce_then ?_
          refine cw_ret ?_
          refine ce_then_ret ?_
          refine ce_block_ret ?_
          refine ce_then_ret ?_
          refine ce_then_ret ?_
          refine ce_block_ret ?_
          refine ce_block_ret ?_
          refine ce_then_ret ?_
          refine ce_then_ret ?_
          refine ce_block_ret ?_
          refine ce_then_ret ?_
          refine ce_results (v := .tuple #[.slice none (0) (0), .bool false]) (res2 rfl (rv_t rfl) (rv_t rfl)) (fun w' hw => ?_)
          exact ⟨none, 0, 0, [], (by rw [hv]; exact Nat.le_refl _), (by rw [hv] <;> rfl), ((.consE (show row 23 1 none (0) (0) (cells fL ([])) = row 23 1 none ((fillV xs ys).1.length) (0) (cells fL ([])) by rw [hv] <;> rfl) (.tail .head) (.consE (show nest 3 1 fI ([]) ([]) = nest 3 1 fI ([]) ((fillV xs ys).1) by rw [hv]) (.head) (.nil)) : Keep _ _).ss hw).to_new⟩
        ·
          refine wl_nil ?_
          refine ce_then ?_
          refine cw_false rfl ?_
          refine cw_skip ?_
          refine ce_then ?_
          refine cw_seq ?_
          refine cw_region ?_
          refine wl_v (ov_move rfl) rfl rfl rfl ?_
          refine wl_v (ov_move rfl) rfl rfl rfl ?_
          refine wl_v (ov_indexg sI23 tI3 rfl rfl (some_holds (q := (((pickL xs ys i).getD q 0).toNat) * 1) (holds_row (List.Mem.tail _ (List.Mem.tail _ (List.Mem.tail _ (List.Mem.tail _ (List.Mem.head _)))))) (by rw [cells_length fI_len]; have hlt : ((pickL xs ys i).getD q 0).toNat < (decs (lefts xs ys i) ((pickL xs ys i).take q)).length := (by omega); omega)) (by omega) (show ((pickL xs ys i).getD q 0).toNat < ys.length from (by omega))) rfl rfl rfl ?_
          refine wl_v (ov_load tI3 (holds_row (List.Mem.tail _ (List.Mem.tail _ (List.Mem.tail _ (List.Mem.tail _ (List.Mem.head _)))))) rfl (get_fI (show ((pickL xs ys i).getD q 0).toNat < (decs (lefts xs ys i) ((pickL xs ys i).take q)).length from (by omega)))) rfl rfl rfl ?_
          refine wl_v (ov_sub (r := ((decs (lefts xs ys i) ((pickL xs ys i).take q)).getD (((pickL xs ys i).getD q 0).toNat) 0) - 1) rfl rfl rfl (by have := hdb _ (getD_mem (xs := decs (lefts xs ys i) ((pickL xs ys i).take q)) (k := ((pickL xs ys i).getD q 0).toNat) 0 (by omega)); omega)) rfl rfl rfl ?_
          refine wl_v (ov_indexg sI23 tI3 rfl rfl (some_holds (q := (((pickL xs ys i).getD q 0).toNat) * 1) (holds_row (List.Mem.tail _ (List.Mem.tail _ (List.Mem.tail _ (List.Mem.tail _ (List.Mem.head _)))))) (by rw [cells_length fI_len]; have hlt : ((pickL xs ys i).getD q 0).toNat < (decs (lefts xs ys i) ((pickL xs ys i).take q)).length := (by omega); omega)) (by omega) (show ((pickL xs ys i).getD q 0).toNat < ys.length from (by omega))) rfl rfl rfl ?_
          refine wl_r0 (or_store_row (vs := [.int .i64 (((decs (lefts xs ys i) ((pickL xs ys i).take q)).getD (((pickL xs ys i).getD q 0).toNat) 0) - 1)]) (cs' := cells fI ((decs (lefts xs ys i) ((pickL xs ys i).take q)).set (((pickL xs ys i).getD q 0).toNat) (((decs (lefts xs ys i) ((pickL xs ys i).take q)).getD (((pickL xs ys i).getD q 0).toNat) 0) - 1))) (.tail (.tail (.tail (.tail .head)))) tI3 rfl rfl rfl rfl (by rw [cells_length fI_len]; have hlt := (show ((pickL xs ys i).getD q 0).toNat < (decs (lefts xs ys i) ((pickL xs ys i).take q)).length from (by omega)); simp only [List.length_cons, List.length_nil]; omega) (by simp) (cells_splice fI_len (show ((pickL xs ys i).getD q 0).toNat < (decs (lefts xs ys i) ((pickL xs ys i).take q)).length from (by omega)) (((decs (lefts xs ys i) ((pickL xs ys i).take q)).getD (((pickL xs ys i).getD q 0).toNat) 0) - 1))) rfl rfl (kn0 ?_)
          refine wl_nil ?_
          refine ce_then ?_
          refine cw_region ?_
          refine wl_v (ov_move rfl) rfl rfl rfl ?_
          refine wl_v (ov_move rfl) rfl rfl rfl ?_
          refine ct_fact (nest_facts (List.Mem.tail _ (List.Mem.tail _ (List.Mem.tail _ (List.Mem.tail _ (List.Mem.head _)))))) (fun hnf54 => ?_)
          have hnl54 := hnf54.1
          refine wl_v (ov_index (k := i) (c := c2_22) sI33 tI23 rfl rfl (some_holds (q := i * 1) (holds_row (List.Mem.tail _ (List.Mem.tail _ (List.Mem.tail _ (List.Mem.head _))))) (by rw [cells_length fL_len]; have hlt : i < hs2_22.length := (by omega); omega)) (show i < (tableM xs.length ys.length (fun _ _ => 0)).length from (by omega))) rfl rfl rfl ?_
          have hml : (m2.getD i []).length = ys.length := by rw [hm4, ones_len]
          refine wl_v (ov_load tI23 (holds_row (List.Mem.tail _ (List.Mem.tail _ (List.Mem.tail _ (List.Mem.head _))))) rfl (get_fLn hnf54 (show i < m2.length from (by omega)))) rfl rfl rfl ?_
          refine wl_v (ov_move rfl) rfl rfl rfl ?_
          refine wl_v (ov_indexg sI23 tI3 rfl rfl (some_holds (q := (((pickL xs ys i).getD q 0).toNat) * 1) (holds_nest (List.Mem.tail _ (List.Mem.tail _ (List.Mem.tail _ (List.Mem.tail _ (List.Mem.head _))))) (show i < m2.length from (by omega))) (by rw [cells_length fI_len]; have hlt : ((pickL xs ys i).getD q 0).toNat < (m2.getD i []).length := (by omega); omega)) (by omega) (show ((pickL xs ys i).getD q 0).toNat < (m2.getD i []).length from (by omega))) rfl rfl rfl ?_
          refine wl_r0 (or_store_nest (i := i) (q := ((pickL xs ys i).getD q 0).toNat) (z := 1) (.cons (.tail (.tail (.tail (.tail .head)))) (.cons (.head) (.cons (.head) (.cons (.head) (.cons (.head) (.nil)))))) hnf54 (show i < m2.length from (by omega)) (show ((pickL xs ys i).getD q 0).toNat < (m2.getD i []).length from (by omega)) tI3 rfl rfl) rfl rfl (kn0 ?_)
          refine wl_nil ?_
          refine ce_block ?_
          refine ce_then ?_
          refine cw_region ?_
          refine wl_v (ov_add (r := ((q + 1 : Nat) : Int)) rfl rfl rfl (by omega)) rfl rfl rfl ?_
          refine wl_v (ov_move rfl) rfl rfl rfl ?_
          refine wl_nil ?_
          exact fun ac_ w_ hs_ => hR1 (q + 1) (m2.set i ((m2.getD i []).set ((pickL xs ys i).getD q 0).toNat 1)) ⟨by omega, by rw [List.length_set]; exact hm2, fun j hj hne => by rw [getD_setM (by omega), if_neg (fun h => hne h.symm)]; exact hm3 j hj hne, by rw [getD_setM (by omega), if_pos rfl, hm4, ← ones_take (by omega)], all_take_step (p := fun x : Int => (lefts xs ys i).getD x.toNat 0 ≠ 0) 0 (by omega) hm5 (by omega)⟩ (by omega) ac_ w_ (hs_.weaken (.cons rfl (.cons rfl (.cons rfl (.cons rfl (.cons rfl (.cons rfl (.cons rfl (.cons rfl (.cons rfl (.cons rfl (.nil))))))))))) (.cons (.tail (.tail .head)) (.cons (.tail (.tail .head)) (.cons (.tail (.tail .head)) (.cons (.head) (.consE (show row 3 1 A2_17 (ys.length) (c2_17) (cells fI ((decs (lefts xs ys i) ((pickL xs ys i).take q)).set (((pickL xs ys i).getD q 0).toNat) (((decs (lefts xs ys i) ((pickL xs ys i).take q)).getD (((pickL xs ys i).getD q 0).toNat) 0) - 1))) = row 3 1 A2_17 (ys.length) (c2_17) (cells fI (decs (lefts xs ys i) ((pickL xs ys i).take (q + 1)))) by rw [decs_take (by omega)]) (.head) (.nil)))))))
      ·
        refine wl_nil ?_
        refine ce_then ?_
        refine cw_seq ?_
        refine cw_false rfl ?_
        refine cw_exit ?_
        refine ce_then_exit ?_
        refine ce_then_exit ?_
        refine ce_hit ?_
        refine ce_block ?_
        refine ce_then ?_
        refine cw_region ?_
        refine wl_v (ov_add (r := ((i + 1 : Nat) : Int)) rfl rfl rfl (by omega)) rfl rfl rfl ?_
        refine wl_v (ov_move rfl) rfl rfl rfl ?_
        refine wl_nil ?_
        exact fun ac_ w_ hs_ => hR0 (i + 1) m2 ⟨by omega, by rw [goodTo_succ, hgd, Bool.true_and]; refine List.all_eq_true.2 fun x hx => ?_; rw [List.take_of_length_le (show (pickL xs ys i).length ≤ q by omega)] at hm5; simpa using hm5 x hx, hm2, fun j hj => by by_cases hji : j = i; (subst hji; rw [hm4, if_pos (by omega), List.take_of_length_le (by omega)]); (rw [hm3 j hj hji]; by_cases h8 : j < i; (rw [if_pos h8, if_pos (by omega)]); (rw [if_neg h8, if_neg (by omega)]))⟩ (by omega) ac_ w_ (hs_.weaken (.cons rfl (.cons rfl (.cons rfl (.cons rfl (.cons rfl (.cons rfl (.nil))))))) (.cons (.tail (.tail .head)) (.cons (.tail (.tail .head)) (.consE (show row 3 1 A2_17 (ys.length) (c2_17) (cells fI (decs (lefts xs ys i) ((pickL xs ys i).take q))) = row 3 1 A2_17 (ys.length) (c2_17) (cells fI (lefts xs ys (i + 1))) by rw [List.take_of_length_le (show (pickL xs ys i).length ≤ q by omega)]; rfl) (.tail (.tail .head)) (.nil)))))
    ·
      refine wl_nil ?_
      refine ce_then ?_
      refine cw_seq ?_
      refine cw_false rfl ?_
      refine cw_exit ?_
      refine ce_then_exit ?_
      refine ce_then_exit ?_
      refine ce_hit ?_
      refine ce_then ?_
      refine cw_seq ?_
      refine cw_seq ?_
      refine cw_region ?_
      refine wl_v (ov_move rfl) rfl rfl rfl ?_
      refine wl_r (or_call (fv := []) (vs := [.slice A2_17 (ys.length) (ys.length)]) (cs := []) en44 rfl rfl (call_v (fun w hw => sumI_c w A2_17 ys.length ys.length (lefts xs ys i) ((holds_row (List.Mem.tail _ (List.Mem.tail _ (List.Mem.head _)))) w hw) (lefts_len _ _ _) (Nat.le_refl _) (lefts_small c14 (by omega) hgd)))) rfl rfl (kt0 rfl ?_)
      refine wl_if (ov_gtr rfl rfl) rfl rfl rfl (fun c62 => ?_) (fun c62 => ?_)
      ·
        have hv : fillV xs ys = ([], false) := if_neg (fun h => h.2.2 (by rw [show xs.length = i from by omega]; exact c62))
        refine ct_none fL 23 1 ?_
        refine ct_nest0 3 1 fI ?_
        refine wl_nil ?_
        refine ce_then ?_
        refine cw_true rfl ?_
        refine cw_seq ?_
        refine cw_region ?_
        refine wl_v (ov_assign rfl) rfl rfl rfl ?_
        refine wl_v (ov_assign rfl) rfl rfl rfl ?_
        refine wl_nil ?_
        refine ce_then ?_
        refine cw_ret ?_
        refine ce_then_ret ?_
        refine ce_results (v := .tuple #[.slice none (0) (0), .bool false]) (res2 rfl (rv_t rfl) (rv_t rfl)) (fun w' hw => ?_)
        exact ⟨none, 0, 0, [], (by rw [hv]; exact Nat.le_refl _), (by rw [hv] <;> rfl), ((.consE (show row 23 1 none (0) (0) (cells fL ([])) = row 23 1 none ((fillV xs ys).1.length) (0) (cells fL ([])) by rw [hv] <;> rfl) (.tail .head) (.consE (show nest 3 1 fI ([]) ([]) = nest 3 1 fI ([]) ((fillV xs ys).1) by rw [hv]) (.head) (.nil)) : Keep _ _).ss hw).to_new⟩
      ·
        have hv : fillV xs ys = (filled xs ys xs.length, true) := if_pos ⟨c14, by rw [show xs.length = i from by omega]; exact hgd, by rw [show xs.length = i from by omega]; exact c62⟩
        have hmf : m = filled xs ys xs.length := filled_eq hk3 (fun j hj => by rw [hk4 j hj, if_pos (by omega)])
        have hvl : (fillV xs ys).1.length = xs.length := by rw [hv]; exact filled_len _ _ _
        have hvm : (fillV xs ys).1 = m := by rw [hv, hmf]
        have hv2 : (fillV xs ys).2 = true := by rw [hv]
        refine wl_nil ?_
        refine ce_then ?_
        refine cw_false rfl ?_
        refine cw_skip ?_
        refine ce_then ?_
        refine cw_seq ?_
        refine cw_region ?_
        refine wl_v (ov_move rfl) rfl rfl rfl ?_
        refine wl_v (ov_assign rfl) rfl rfl rfl ?_
        refine wl_v (ov_assign rfl) rfl rfl rfl ?_
        refine wl_nil ?_
        refine ce_then ?_
        refine cw_ret ?_
        refine ce_results (v := .tuple #[.slice A2_22 ((tableM xs.length ys.length (fun _ _ => 0)).length) (c2_22), .bool true]) (res2 rfl (rv_t rfl) (rv_t rfl)) (fun w' hw => ?_)
        exact ⟨A2_22, c2_22, c2_22, hs2_22, (by rw [hvl, ← htl]; exact h_22.1), (by rw [hvl, htl, hv2]), ((.consE (show row 23 1 A2_22 ((tableM xs.length ys.length (fun _ _ => 0)).length) (c2_22) (cells fL hs2_22) = row 23 1 A2_22 ((fillV xs ys).1.length) (c2_22) (cells fL hs2_22) by rw [hvl, htl]) (.head) (.consE (show nest 3 1 fI hs2_22 m = nest 3 1 fI hs2_22 ((fillV xs ys).1) by rw [hvm]) (.head) (.nil)) : Keep _ _).ss hw).to_new⟩
  ·
    have hv : fillV xs ys = ([], false) := if_neg (fun h => c14 h.1)
    refine ct_none fL 23 1 ?_
    refine ct_nest0 3 1 fI ?_
    refine wl_v (ov_not rfl) rfl rfl rfl ?_
    refine wl_nil ?_
    refine ce_then ?_
    refine cw_true rfl ?_
    refine cw_seq ?_
    refine cw_region ?_
    refine wl_v (ov_assign rfl) rfl rfl rfl ?_
    refine wl_v (ov_assign rfl) rfl rfl rfl ?_
    refine wl_nil ?_
    refine ce_then ?_
    refine cw_ret ?_
    refine ce_then_ret ?_
    refine ce_results (v := .tuple #[.slice none (0) (0), .bool false]) (res2 rfl (rv_t rfl) (rv_t rfl)) (fun w' hw => ?_)
    exact ⟨none, 0, 0, [], (by rw [hv]; exact Nat.le_refl _), (by rw [hv] <;> rfl), ((.consE (show row 23 1 none (0) (0) (cells fL ([])) = row 23 1 none ((fillV xs ys).1.length) (0) (cells fL ([])) by rw [hv] <;> rfl) (.tail .head) (.consE (show nest 3 1 fI ([]) ([]) = nest 3 1 fI ([]) ((fillV xs ys).1) by rw [hv]) (.head) (.nil)) : Keep _ _).ss hw).to_new⟩
set_option maxRecDepth 100000 in
theorem FillS_c (w : World) (A : Option Addr) (n : Nat) (c : Nat) (xs : List (Int)) (A2 : Option Addr) (n2 : Nat) (c2 : Nat) (ys : List (Int)) (hA : At w A (cells fI xs)) (eA : xs.length = n) (lA : n ≤ c) (hA2 : At w A2 (cells fI ys)) (eA2 : ys.length = n2) (lA2 : n2 ≤ c2) (hs : xs.length ≤ 1048576 ∧ ys.length ≤ 1048576) : Calls Try.prog 26 #[.slice A (n) (c), .slice A2 (n2) (c2)] w (Ret fun rv w' => ∃ A2 k2 c2 hs2, ((fillV xs ys).1.length ≤ k2) ∧ rv = .tuple #[.slice A2 ((fillV xs ys).1.length) (k2), .bool ((fillV xs ys).2)] ∧ New w w' [row 23 1 A2 ((fillV xs ys).1.length) (c2) (cells fL hs2), nest 3 1 fI hs2 ((fillV xs ys).1)]) := by
  have oA := hA.atB
  subst eA
  have oA2 := hA2.atB
  subst eA2
  refine fn_enter (args := [.slice A (xs.length) (c), .slice A2 (ys.length) (c2)]) Try.func26 rfl Try.ntmps26 rfl (SS.start w) ?_
  refine cw_seq ?_
  refine cw_region ?_
  refine wl_v (ov_assign rfl) rfl rfl rfl ?_
  refine wl_v (ov_assign rfl) rfl rfl rfl ?_
  refine wl_nil ?_
  refine ce_then ?_
  refine cw_seq ?_
  refine cw_seq ?_
  refine cw_region ?_
  refine wl_v (ov_move rfl) rfl rfl rfl ?_
  refine wl_v (ov_move rfl) rfl rfl rfl ?_
  refine wl_r (or_call (fv := []) (vs := [.slice A (xs.length) (c), .slice A2 (ys.length) (c2)]) (cs := []) en42 rfl rfl (call_v (fun w hw => validMS_c w A xs.length c xs A2 ys.length c2 ys ((holds_old oA) w hw) rfl lA ((holds_old oA2) w hw) rfl lA2 (by first | assumption | omega | (simp; omega))))) rfl rfl (kt_if rfl (fun c14 => ?_) (fun c14 => ?_))
  ·
    have hV1 := c14.1
    have hV2 := c14.2.1
    refine wl_v (ov_not rfl) rfl rfl rfl ?_
    refine wl_nil ?_
    refine ce_then ?_
    refine cw_false rfl ?_
    refine cw_skip ?_
    refine ce_then ?_
    refine cw_seq ?_
    refine cw_region ?_
    refine wl_v (ov_move rfl) rfl rfl rfl ?_
    refine wl_r (or_call (fv := []) (vs := [.slice A2 (ys.length) (c2)]) (cs := []) en61 rfl rfl (call_x2 (fun w hw => copyInts_c w A2 ys.length c2 ys ((holds_old oA2) w hw) rfl lA2 (by first | assumption | omega | (simp; omega))))) rfl rfl (kt2p rfl (fun A2_17 c2_17 h_17 => ?_))
    refine wl_v (ov_assign rfl) rfl rfl rfl ?_
    refine wl_nil ?_
    refine ce_then ?_
    refine cw_seq ?_
    refine ct_nest0 3 1 fI ?_
    refine cw_region ?_
    refine wl_r (or_buildSlice (e := 23) (size := 1) (is := []) (vs := []) (cs := cells fL ([])) rfl rfl rfl (by decide) (fun _ => by kernel_rfl)) rfl rfl (kt1 rfl (fun g18 => ?_))
    refine wl_v (ov_assign rfl) rfl rfl rfl ?_
    refine wl_nil ?_
    refine ce_then ?_
    refine cw_seq ?_
    refine cw_seq ?_
    refine cw_region ?_
    refine wl_v (ov_assign rfl) rfl rfl rfl ?_
    refine wl_nil ?_
    refine ce_then ?_
    refine cw_block ?_
    refine cw_loop4 (fun (i : Nat) (A3 : Option Addr) (c3 : Nat) (hs3 : List Hd) => [(0, .slice A (xs.length) (c)), (1, .slice A2 (ys.length) (c2)), (6, .slice A2_17 (ys.length) (c2_17)), (7, .slice A3 (i) (c3)), (8, .int .i64 (((i : Nat) : Int)))]) (fun (i : Nat) (A3 : Option Addr) (c3 : Nat) (hs3 : List Hd) => [row 23 1 A3 (i) (c3) (cells fL hs3), nest 3 1 fI hs3 (filled xs ys i), row 3 1 A2_17 (ys.length) (c2_17) (cells fI (lefts xs ys i))]) (fun (i : Nat) (A3 : Option Addr) (c3 : Nat) (hs3 : List Hd) => i ≤ xs.length ∧ i ≤ c3 ∧ goodTo xs ys i = true) (fun (i : Nat) (A3 : Option Addr) (c3 : Nat) (hs3 : List Hd) => xs.length - i) 0 (some ⟨g18, 0, none⟩) 0 ([]) ⟨by omega, Nat.le_refl _, rfl⟩ (.cons rfl (.cons rfl (.cons rfl (.cons rfl (.cons (congrArg (fun z => some (Value.int .i64 z)) (show 0 = ((0 : Nat) : Int) by first | omega | rfl | (simp; done))) (.nil)))))) (.consE (show row 23 1 (some ⟨g18, 0, none⟩) (0) (0) (cells fL ([])) = row 23 1 (some ⟨g18, 0, none⟩) (0) (0) (cells fL ([])) by rfl) (.head) (.consE (show nest 3 1 fI ([]) ([]) = nest 3 1 fI ([]) (filled xs ys 0) by rfl) (.head) (.consE (show row 3 1 A2_17 (ys.length) (c2_17) (cells fI ys) = row 3 1 A2_17 (ys.length) (c2_17) (cells fI (lefts xs ys 0)) by rfl) (.head) (.nil)))) ?_
    intro R0 i A3 c3 hs3 hk hR0
    obtain ⟨hk1, hk2, hgd⟩ := hk
    refine cw_seq ?_
    refine cw_seq ?_
    refine cw_region ?_
    refine wl_v (ov_move rfl) rfl rfl rfl ?_
    refine wl_v (ov_move rfl) rfl rfl rfl ?_
    refine wl_v (ov_len (sliceI_spec sI23) rfl) rfl rfl rfl ?_
    refine wl_if (ov_lss rfl rfl) rfl rfl rfl (fun c22 => ?_) (fun c22 => ?_)
    ·
      refine wl_nil ?_
      refine ce_then ?_
      refine cw_true rfl ?_
      refine cw_skip ?_
      refine ce_then ?_
      refine cw_seq ?_
      refine cw_block ?_
      refine cw_seq ?_
      refine cw_region ?_
      refine wl_v (ov_move rfl) rfl rfl rfl ?_
      refine wl_v (ov_move rfl) rfl rfl rfl ?_
      refine wl_v (ov_move rfl) rfl rfl rfl ?_
      have hpf := pick_fact c14 (i := i) (by omega)
      have hpl := pickL_len xs ys i
      have hll := lefts_len xs ys i
      have hri := c14.2.2.1 _ (getD_mem (xs := xs) (k := i) 0 (by omega))
      have hlb := lefts_bd c14 (i := i) (by omega) hgd
      have hls := lefts_small c14 (i := i) (by omega) hgd
      refine wl_v (ov_index (k := i) (c := c) sI23 tI3 rfl rfl (some_holds (q := i * 1) (holds_old oA) (by rw [cells_length fI_len]; have hlt : i < xs.length := (by omega); omega)) (show i < xs.length from (by omega))) rfl rfl rfl ?_
      refine wl_v (ov_load tI3 (holds_old oA) rfl ((get_fI (show i < xs.length from (by omega))).trans (congrArg (fun z => some (Value.int .i64 z)) (show (xs.getD i 0) = (((xs.getD i 0).toNat : Nat) : Int) from (Int.toNat_of_nonneg hri.1).symm)))) rfl rfl rfl ?_
      refine wl_r (or_call (fv := []) (vs := [.slice A2_17 (ys.length) (c2_17), .int .i64 (-1), .int .i64 ((((xs.getD i 0).toNat : Nat) : Int))]) (cs := []) en62 rfl rfl (call_x2 (fun w hw => greatestM_c w A2_17 ys.length c2_17 (lefts xs ys i) ((xs.getD i 0).toNat) ((holds_row (List.Mem.tail _ (List.Mem.tail _ (List.Mem.head _)))) w hw) hll h_17 hls (by omega)))) rfl rfl (kt2p rfl (fun A2_30 c2_30 h_30 => ?_))
      refine ct_keep (L' := [(0, .slice A (xs.length) (c)), (1, .slice A2 (ys.length) (c2)), (6, .slice A2_17 (ys.length) (c2_17)), (7, .slice A3 (i) (c3)), (8, .int .i64 (((i : Nat) : Int))), (19, .int .i64 (((i : Nat) : Int))), (20, .slice A (xs.length) (c)), (21, .int .i64 (((xs.length : Nat) : Int))), (22, .bool true), (25, .slice A2_17 (ys.length) (c2_17)), (26, .slice A (xs.length) (c)), (27, .int .i64 (((i : Nat) : Int))), (28, elp A (i * 1)), (29, .int .i64 ((((xs.getD i 0).toNat : Nat) : Int))), (30, .slice A2_30 (((xs.getD i 0).toNat)) (c2_30))]) (.cons rfl (.cons rfl (.cons rfl (.cons rfl (.cons rfl (.cons rfl (.cons rfl (.cons rfl (.cons rfl (.cons rfl (.cons rfl (.cons rfl (.cons rfl (.cons rfl (.cons rfl (.nil)))))))))))))))) (.consE (show row 3 1 A2_30 (((xs.getD i 0).toNat)) (c2_30) (cells fI (gre (lefts xs ys i) (-1) ((xs.getD i 0).toNat))) = row 3 1 A2_30 ((xs.getD i 0).toNat) (c2_30) (cells fI (pickL xs ys i)) by rfl) (.head) (.cons (.head) (.cons (.head) (.cons (.head) (.nil))))) ?_
      refine wl_v (ov_assign rfl) rfl rfl rfl ?_
      refine wl_nil ?_
      refine ce_then ?_
      refine cw_seq ?_
      refine cw_region ?_
      refine wl_v (ov_move rfl) rfl rfl rfl ?_
      refine wl_v (ov_len (sliceI_spec sI23) rfl) rfl rfl rfl ?_
      refine wl_r (or_makeSlice (m := ys.length) sI23 tI3 rfl rfl (made_fI _) (by omega) (show ys.length ≤ maxLen by simp only [maxLen]; omega)) rfl rfl (kt1 rfl (fun g33 => ?_))
      refine wl_v (ov_assign rfl) rfl rfl rfl ?_
      refine wl_nil ?_
      refine ce_then ?_
      refine cw_seq ?_
      refine cw_seq ?_
      refine cw_region ?_
      refine wl_v (ov_assign rfl) rfl rfl rfl ?_
      refine wl_nil ?_
      refine ce_then ?_
      refine cw_block ?_
      refine cw_loop1 (fun (q : Nat) => [(0, .slice A (xs.length) (c)), (1, .slice A2 (ys.length) (c2)), (6, .slice A2_17 (ys.length) (c2_17)), (7, .slice A3 (i) (c3)), (8, .int .i64 (((i : Nat) : Int))), (9, .slice A2_30 (((xs.getD i 0).toNat)) (c2_30)), (10, .slice (some ⟨g33, 0, none⟩) (ys.length) (ys.length)), (11, .int .i64 (((q : Nat) : Int)))]) (fun (q : Nat) => [row 3 1 (some ⟨g33, 0, none⟩) (ys.length) (ys.length) (cells fI (ones ys.length ((pickL xs ys i).take q))), row 3 1 A2_30 ((xs.getD i 0).toNat) (c2_30) (cells fI (pickL xs ys i)), row 23 1 A3 (i) (c3) (cells fL hs3), nest 3 1 fI hs3 (filled xs ys i), row 3 1 A2_17 (ys.length) (c2_17) (cells fI (decs (lefts xs ys i) ((pickL xs ys i).take q)))]) (fun (q : Nat) => q ≤ (xs.getD i 0).toNat) (fun (q : Nat) => (xs.getD i 0).toNat - q) 0 (by omega) (.cons rfl (.cons rfl (.cons rfl (.cons rfl (.cons rfl (.cons rfl (.cons rfl (.cons (congrArg (fun z => some (Value.int .i64 z)) (show 0 = ((0 : Nat) : Int) by first | omega | rfl | (simp; done))) (.nil))))))))) (.consE (show row 3 1 (some ⟨g33, 0, none⟩) (ys.length) (ys.length) (cells fI (List.replicate ys.length 0)) = row 3 1 (some ⟨g33, 0, none⟩) (ys.length) (ys.length) (cells fI (ones ys.length ((pickL xs ys i).take 0))) by rfl) (.head) (.cons (.head) (.cons (.head) (.cons (.head) (.consE (show row 3 1 A2_17 (ys.length) (c2_17) (cells fI (lefts xs ys i)) = row 3 1 A2_17 (ys.length) (c2_17) (cells fI (decs (lefts xs ys i) ((pickL xs ys i).take 0))) by rfl) (.head) (.nil)))))) ?_
      intro R1 q hk1 hR1
      refine cw_seq ?_
      refine cw_seq ?_
      refine cw_region ?_
      refine wl_v (ov_move rfl) rfl rfl rfl ?_
      refine wl_v (ov_move rfl) rfl rfl rfl ?_
      refine wl_v (ov_len (sliceI_spec sI23) rfl) rfl rfl rfl ?_
      refine wl_if (ov_lss rfl rfl) rfl rfl rfl (fun c37 => ?_) (fun c37 => ?_)
      ·
        refine wl_nil ?_
        refine ce_then ?_
        refine cw_true rfl ?_
        refine cw_skip ?_
        refine ce_then ?_
        refine cw_seq ?_
        refine cw_block ?_
        refine cw_seq ?_
        refine cw_region ?_
        refine wl_v (ov_move rfl) rfl rfl rfl ?_
        refine wl_v (ov_move rfl) rfl rfl rfl ?_
        refine wl_v (ov_move rfl) rfl rfl rfl ?_
        refine wl_v (ov_index (k := q) (c := c2_30) sI23 tI3 rfl rfl (some_holds (q := q * 1) (holds_row (List.Mem.tail _ (List.Mem.head _))) (by rw [cells_length fI_len]; have hlt : q < (pickL xs ys i).length := (by omega); omega)) (show q < ((xs.getD i 0).toNat) from (by omega))) rfl rfl rfl ?_
        refine wl_v (ov_load tI3 (holds_row (List.Mem.tail _ (List.Mem.head _))) rfl (get_fI (show q < (pickL xs ys i).length from (by omega)))) rfl rfl rfl ?_
        have hxb := hpf.2.2.2 _ (getD_mem (xs := pickL xs ys i) (k := q) 0 (by omega))
        have hdn := decs_next (d := lefts xs ys i) (os := pickL xs ys i) hpf.2.2.1 (by rw [hll]; exact hpf.2.2.2) (q := q) (by omega)
        have hdl : (decs (lefts xs ys i) ((pickL xs ys i).take q)).length = ys.length := by rw [decs_length, hll]
        have hdb := decs_bd5 hlb hpf.2.2.1 (by rw [hll]; exact hpf.2.2.2) q
        refine wl_v (ov_indexg sI23 tI3 rfl rfl (some_holds (q := (((pickL xs ys i).getD q 0).toNat) * 1) (holds_row (List.Mem.head _)) (by rw [cells_length fI_len]; have hlt : ((pickL xs ys i).getD q 0).toNat < (ones ys.length ((pickL xs ys i).take q)).length := (by first | omega | (rw [ones_len]; omega)); omega)) (by omega) (show ((pickL xs ys i).getD q 0).toNat < ys.length from (by first | omega | (rw [ones_len]; omega)))) rfl rfl rfl ?_
        refine wl_r0 (or_store_row (vs := [.int .i64 (1)]) (cs' := cells fI ((ones ys.length ((pickL xs ys i).take q)).set (((pickL xs ys i).getD q 0).toNat) 1)) (.head) tI3 rfl rfl rfl rfl (by rw [cells_length fI_len]; have hlt := (show ((pickL xs ys i).getD q 0).toNat < (ones ys.length ((pickL xs ys i).take q)).length from (by first | omega | (rw [ones_len]; omega))); simp only [List.length_cons, List.length_nil]; omega) (by simp) (cells_splice fI_len (show ((pickL xs ys i).getD q 0).toNat < (ones ys.length ((pickL xs ys i).take q)).length from (by first | omega | (rw [ones_len]; omega))) 1)) rfl rfl (kn0 ?_)
        refine wl_nil ?_
        refine ce_then ?_
        refine cw_draw mixO [14] (.cons (.head) (.cons (.head) (.cons (.head) (.cons (.head) (.cons (.head) (.nil)))))) rfl ?_
        refine wg_takep (i := 0) rfl (ov_move rfl) rfl rfl rfl (by kernel_rfl) (by kernel_rfl) (by kernel_rfl) rfl ?_
        refine wg_takep (i := 1) rfl (ov_move rfl) rfl rfl rfl (by kernel_rfl) (by kernel_rfl) (by kernel_rfl) rfl ?_
        refine wg_takep (i := 2) rfl (ov_move rfl) rfl rfl rfl (by kernel_rfl) (by kernel_rfl) (by kernel_rfl) rfl ?_
        refine wg_take (i := 3) rfl (ov_index (k := q) (c := c2_30) sI23 tI3 rfl rfl (some_holds (q := q * 1) (holds_row (List.Mem.tail _ (List.Mem.head _))) (by rw [cells_length fI_len]; have hlt : q < (pickL xs ys i).length := (by omega); omega)) (show q < ((xs.getD i 0).toNat) from (by omega))) rfl rfl rfl (by kernel_rfl) (by kernel_rfl) (by kernel_rfl) (by kernel_rfl) ?_
        refine wg_take (i := 4) rfl (ov_load tI3 (holds_row (List.Mem.tail _ (List.Mem.head _))) rfl (get_fI (show q < (pickL xs ys i).length from (by omega)))) rfl rfl rfl (by kernel_rfl) (by kernel_rfl) (by kernel_rfl) (by kernel_rfl) ?_
        refine wg_takep (i := 5) rfl (ov_move rfl) rfl rfl rfl (by kernel_rfl) (by kernel_rfl) (by kernel_rfl) rfl ?_
        refine wg_takep (i := 6) rfl (ov_move rfl) rfl rfl rfl (by kernel_rfl) (by kernel_rfl) (by kernel_rfl) rfl ?_
        refine wg_takep (i := 7) rfl (ov_move rfl) rfl rfl rfl (by kernel_rfl) (by kernel_rfl) (by kernel_rfl) rfl ?_
        refine wg_take (i := 8) rfl (ov_index (k := q) (c := c2_30) sI23 tI3 rfl rfl (some_holds (q := q * 1) (holds_row (List.Mem.tail _ (List.Mem.head _))) (by rw [cells_length fI_len]; have hlt : q < (pickL xs ys i).length := (by omega); omega)) (show q < ((xs.getD i 0).toNat) from (by omega))) rfl rfl rfl (by kernel_rfl) (by kernel_rfl) (by kernel_rfl) (by kernel_rfl) ?_
        refine wg_take (i := 9) rfl (ov_load tI3 (holds_row (List.Mem.tail _ (List.Mem.head _))) rfl (get_fI (show q < (pickL xs ys i).length from (by omega)))) rfl rfl rfl (by kernel_rfl) (by kernel_rfl) (by kernel_rfl) (by kernel_rfl) ?_
        refine wg_take (i := 10) rfl (ov_indexg sI23 tI3 rfl rfl (some_holds (q := (((pickL xs ys i).getD q 0).toNat) * 1) (holds_row (List.Mem.tail _ (List.Mem.tail _ (List.Mem.tail _ (List.Mem.tail _ (List.Mem.head _)))))) (by rw [cells_length fI_len]; have hlt : ((pickL xs ys i).getD q 0).toNat < (decs (lefts xs ys i) ((pickL xs ys i).take q)).length := (by omega); omega)) (by omega) (show ((pickL xs ys i).getD q 0).toNat < ys.length from (by omega))) rfl rfl rfl (by kernel_rfl) (by kernel_rfl) (by kernel_rfl) (by kernel_rfl) ?_
        refine wg_take (i := 11) rfl (ov_load tI3 (holds_row (List.Mem.tail _ (List.Mem.tail _ (List.Mem.tail _ (List.Mem.tail _ (List.Mem.head _)))))) rfl (get_fI (show ((pickL xs ys i).getD q 0).toNat < (decs (lefts xs ys i) ((pickL xs ys i).take q)).length from (by omega)))) rfl rfl rfl (by kernel_rfl) (by kernel_rfl) (by kernel_rfl) (by kernel_rfl) ?_
        refine wg_takep (i := 12) rfl (ov_sub (r := ((decs (lefts xs ys i) ((pickL xs ys i).take q)).getD (((pickL xs ys i).getD q 0).toNat) 0) - 1) rfl rfl rfl (by have := hdb _ (getD_mem (xs := decs (lefts xs ys i) ((pickL xs ys i).take q)) (k := ((pickL xs ys i).getD q 0).toNat) 0 (by omega)); omega)) rfl rfl rfl (by kernel_rfl) (by kernel_rfl) (by kernel_rfl) rfl ?_
        refine wg_take (i := 13) rfl (ov_indexg sI23 tI3 rfl rfl (some_holds (q := (((pickL xs ys i).getD q 0).toNat) * 1) (holds_row (List.Mem.tail _ (List.Mem.tail _ (List.Mem.tail _ (List.Mem.tail _ (List.Mem.head _)))))) (by rw [cells_length fI_len]; have hlt : ((pickL xs ys i).getD q 0).toNat < (decs (lefts xs ys i) ((pickL xs ys i).take q)).length := (by omega); omega)) (by omega) (show ((pickL xs ys i).getD q 0).toNat < ys.length from (by omega))) rfl rfl rfl (by kernel_rfl) (by kernel_rfl) (by kernel_rfl) (by kernel_rfl) ?_
        refine wg_one (i := 14) (by kernel_rfl) ?_
        refine go_late0 rfl rfl rfl rfl (or_store_row (vs := [.int .i64 (((decs (lefts xs ys i) ((pickL xs ys i).take q)).getD (((pickL xs ys i).getD q 0).toNat) 0) - 1)]) (cs' := cells fI ((decs (lefts xs ys i) ((pickL xs ys i).take q)).set (((pickL xs ys i).getD q 0).toNat) (((decs (lefts xs ys i) ((pickL xs ys i).take q)).getD (((pickL xs ys i).getD q 0).toNat) 0) - 1))) (.tail (.tail (.tail (.tail .head)))) tI3 rfl rfl rfl rfl (by rw [cells_length fI_len]; have hlt := (show ((pickL xs ys i).getD q 0).toNat < (decs (lefts xs ys i) ((pickL xs ys i).take q)).length from (by omega)); simp only [List.length_cons, List.length_nil]; omega) (by simp) (cells_splice fI_len (show ((pickL xs ys i).getD q 0).toNat < (decs (lefts xs ys i) ((pickL xs ys i).take q)).length from (by omega)) (((decs (lefts xs ys i) ((pickL xs ys i).take q)).getD (((pickL xs ys i).getD q 0).toNat) 0) - 1))) (kn0 ?_)
        refine wa_done (by kernel_rfl) ?_
        refine ce_block ?_
        refine ce_then ?_
        refine cw_region ?_
        refine wl_v (ov_move rfl) rfl rfl rfl ?_
        refine wl_v (ov_add (r := ((q + 1 : Nat) : Int)) rfl rfl rfl (by omega)) rfl rfl rfl ?_
        refine wl_v (ov_assign rfl) rfl rfl rfl ?_
        refine wl_nil ?_
        exact fun ac_ w_ hs_ => hR1 (q + 1) (by omega) (by omega) ac_ w_ (hs_.weaken (.cons rfl (.cons rfl (.cons rfl (.cons rfl (.cons rfl (.cons rfl (.cons rfl (.cons rfl (.nil))))))))) (.consE (show row 3 1 (some ⟨g33, 0, none⟩) (ys.length) (ys.length) (cells fI ((ones ys.length ((pickL xs ys i).take q)).set (((pickL xs ys i).getD q 0).toNat) 1)) = row 3 1 (some ⟨g33, 0, none⟩) (ys.length) (ys.length) (cells fI (ones ys.length ((pickL xs ys i).take (q + 1)))) by rw [ones_take (by omega)]) (.tail .head) (.cons (.tail .head) (.cons (.tail .head) (.cons (.tail .head) (.consE (show row 3 1 A2_17 (ys.length) (c2_17) (cells fI ((decs (lefts xs ys i) ((pickL xs ys i).take q)).set (((pickL xs ys i).getD q 0).toNat) (((decs (lefts xs ys i) ((pickL xs ys i).take q)).getD (((pickL xs ys i).getD q 0).toNat) 0) - 1))) = row 3 1 A2_17 (ys.length) (c2_17) (cells fI (decs (lefts xs ys i) ((pickL xs ys i).take (q + 1)))) by rw [decs_take (by omega)]) (.head) (.nil)))))))
      ·
        refine wl_nil ?_
        refine ce_then ?_
        refine cw_false rfl ?_
        refine cw_exit ?_
        refine ce_then_exit ?_
        refine ce_then_exit ?_
        refine ce_hit ?_
        refine ce_then ?_
        refine cw_seq ?_
        refine cw_seq ?_
        have hrt := row_test c14 (i := i) (by omega) hgd
        rw [show (lefts xs ys (i + 1)).length = ys.length from lefts_len _ _ _] at hrt
        refine ct_keep (L' := [(0, .slice A (xs.length) (c)), (1, .slice A2 (ys.length) (c2)), (6, .slice A2_17 (ys.length) (c2_17)), (7, .slice A3 (i) (c3)), (8, .int .i64 (((i : Nat) : Int))), (9, .slice A2_30 (((xs.getD i 0).toNat)) (c2_30)), (10, .slice (some ⟨g33, 0, none⟩) (ys.length) (ys.length)), (11, .int .i64 (((q : Nat) : Int))), (34, .int .i64 (((q : Nat) : Int))), (35, .slice A2_30 (((xs.getD i 0).toNat)) (c2_30)), (36, .int .i64 (((((xs.getD i 0).toNat) : Nat) : Int))), (37, .bool false)]) (.cons rfl (.cons rfl (.cons rfl (.cons rfl (.cons rfl (.cons rfl (.cons rfl (.cons rfl (.cons rfl (.cons rfl (.cons rfl (.cons rfl (.nil))))))))))))) (.cons (.head) (.cons (.head) (.cons (.head) (.cons (.head) (.consE (show row 3 1 A2_17 (ys.length) (c2_17) (cells fI (decs (lefts xs ys i) ((pickL xs ys i).take q))) = row 3 1 A2_17 (ys.length) (c2_17) (cells fI (lefts xs ys (i + 1))) by rw [List.take_of_length_le (show (pickL xs ys i).length ≤ q by omega)]; rfl) (.head) (.nil)))))) ?_
        refine cw_region ?_
        refine wl_v (ov_move rfl) rfl rfl rfl ?_
        refine wl_r (or_call (fv := []) (vs := [.slice A2_17 (ys.length) (c2_17)]) (cs := []) en63 rfl rfl (call_v (fun w hw => least_c w A2_17 ys.length c2_17 (lefts xs ys (i + 1)) ((holds_row (List.Mem.tail _ (List.Mem.tail _ (List.Mem.tail _ (List.Mem.tail _ (List.Mem.head _)))))) w hw) (lefts_len _ _ _) h_17 (by rw [lefts_len]; omega)))) rfl rfl (kt0 rfl ?_)
        refine wl_if (ov_lss rfl rfl) rfl rfl rfl (fun c62 => ?_) (fun c62 => ?_)
        ·
          have hv : fillV xs ys = ([], false) := fillV_bad (i := i) (by omega) (fun h => hrt.1 h c62)
          refine ct_none fL 23 1 ?_
          refine ct_nest0 3 1 fI ?_
          refine wl_nil ?_
          refine ce_then ?_
          refine cw_true rfl ?_
          refine cw_seq ?_
          refine cw_region ?_
          refine wl_v (ov_assign rfl) rfl rfl rfl ?_
          refine wl_v (ov_assign rfl) rfl rfl rfl ?_
          refine wl_nil ?_
          refine ce_then ?_
          refine cw_ret ?_
          refine ce_then_ret ?_
          refine ce_block_ret ?_
          refine ce_then_ret ?_
          refine ce_then_ret ?_
          refine ce_block_ret ?_
          refine ce_then_ret ?_
          refine ce_results (v := .tuple #[.slice none (0) (0), .bool false]) (res2 rfl (rv_t rfl) (rv_t rfl)) (fun w' hw => ?_)
          exact ⟨none, 0, 0, [], (by rw [hv]; exact Nat.le_refl _), (by rw [hv] <;> rfl), ((.consE (show row 23 1 none (0) (0) (cells fL ([])) = row 23 1 none ((fillV xs ys).1.length) (0) (cells fL ([])) by rw [hv] <;> rfl) (.tail .head) (.consE (show nest 3 1 fI ([]) ([]) = nest 3 1 fI ([]) ((fillV xs ys).1) by rw [hv]) (.head) (.nil)) : Keep _ _).ss hw).to_new⟩
        ·
          refine wl_nil ?_
          refine ce_then ?_
          refine cw_false rfl ?_
          refine cw_skip ?_
          refine ce_then ?_
          refine cw_region ?_
          refine wl_v (ov_move rfl) rfl rfl rfl ?_
          refine wl_v (ov_move rfl) rfl rfl rfl ?_
          refine wl_r (or_buildSlice (e := 23) (size := 1) (is := [0]) (vs := [.slice (some ⟨g33, 0, none⟩) (ys.length) (ys.length)]) (cs := cells fL ([(some ⟨g33, 0, none⟩, ys.length, ys.length)])) rfl rfl rfl (by decide) (fun _ => by kernel_rfl)) rfl rfl (kt1 rfl (fun g65 => ?_))
          refine wl_r (or_append (c2 := 1) sI33 tI23 rfl (by decide) rfl rfl (.tail (.tail (.tail .head))) (holds_row (List.Mem.head _)) (by rw [cells_length fL_len]; try simp) (one_cells fL_one _) cells_append (by omega) (by omega)) rfl rfl (kt2p rfl (fun A66 c66 h66 => ?_))
          refine ct_push (k := ys.length) (.cons (.tail (.tail (.tail (.tail .head)))) (.cons (.tail (.tail .head)) (.cons (.head) (.cons (.head) (.cons (.head) (.cons (.head) (.nil))))))) ((ones_len _ _)) ((Nat.le_refl _)) ?_
          refine wl_v (ov_assign rfl) rfl rfl rfl ?_
          refine wl_nil ?_
          refine ce_block ?_
          refine ce_then ?_
          refine cw_region ?_
          refine wl_v (ov_move rfl) rfl rfl rfl ?_
          refine wl_v (ov_add (r := ((i + 1 : Nat) : Int)) rfl rfl rfl (by omega)) rfl rfl rfl ?_
          refine wl_v (ov_assign rfl) rfl rfl rfl ?_
          refine wl_nil ?_
          exact fun ac_ w_ hs_ => hR0 (i + 1) A66 c66 (hs3 ++ ([(some ⟨g33, 0, none⟩, ys.length, ys.length)])) ⟨by omega, h66, by rw [goodTo_succ, hgd, hrt.2 c62]; rfl⟩ (by omega) ac_ w_ (hs_.weaken (.cons rfl (.cons rfl (.cons rfl (.cons rfl (.cons rfl (.nil)))))) (.cons (.tail .head) (.consE (show nest 3 1 fI (hs3 ++ [(some ⟨g33, 0, none⟩, ys.length, ys.length)]) (filled xs ys i ++ [ones ys.length ((pickL xs ys i).take q)]) = nest 3 1 fI (hs3 ++ ([(some ⟨g33, 0, none⟩, ys.length, ys.length)])) (filled xs ys (i + 1)) by rw [filled_succ, List.take_of_length_le (show (pickL xs ys i).length ≤ q by omega)]) (.head) (.cons (.tail (.tail .head)) (.nil)))))
    ·
      refine wl_nil ?_
      refine ce_then ?_
      refine cw_false rfl ?_
      refine cw_exit ?_
      refine ce_then_exit ?_
      refine ce_then_exit ?_
      refine ce_hit ?_
      refine ce_then ?_
      refine cw_seq ?_
      refine cw_seq ?_
      refine cw_region ?_
      refine wl_v (ov_move rfl) rfl rfl rfl ?_
      refine wl_r (or_call (fv := []) (vs := [.slice A2_17 (ys.length) (c2_17)]) (cs := []) en64 rfl rfl (call_v (fun w hw => sum_c w A2_17 ys.length c2_17 (lefts xs ys i) ((holds_row (List.Mem.tail _ (List.Mem.tail _ (List.Mem.head _)))) w hw) (lefts_len _ _ _) h_17 (lefts_small c14 (by omega) hgd)))) rfl rfl (kt0 rfl ?_)
      refine wl_if (ov_gtr rfl rfl) rfl rfl rfl (fun c69 => ?_) (fun c69 => ?_)
      ·
        have hv : fillV xs ys = ([], false) := if_neg (fun h => h.2.2 (by rw [show xs.length = i from by omega]; exact c69))
        refine ct_none fL 23 1 ?_
        refine ct_nest0 3 1 fI ?_
        refine wl_nil ?_
        refine ce_then ?_
        refine cw_true rfl ?_
        refine cw_seq ?_
        refine cw_region ?_
        refine wl_v (ov_assign rfl) rfl rfl rfl ?_
        refine wl_v (ov_assign rfl) rfl rfl rfl ?_
        refine wl_nil ?_
        refine ce_then ?_
        refine cw_ret ?_
        refine ce_then_ret ?_
        refine ce_results (v := .tuple #[.slice none (0) (0), .bool false]) (res2 rfl (rv_t rfl) (rv_t rfl)) (fun w' hw => ?_)
        exact ⟨none, 0, 0, [], (by rw [hv]; exact Nat.le_refl _), (by rw [hv] <;> rfl), ((.consE (show row 23 1 none (0) (0) (cells fL ([])) = row 23 1 none ((fillV xs ys).1.length) (0) (cells fL ([])) by rw [hv] <;> rfl) (.tail .head) (.consE (show nest 3 1 fI ([]) ([]) = nest 3 1 fI ([]) ((fillV xs ys).1) by rw [hv]) (.head) (.nil)) : Keep _ _).ss hw).to_new⟩
      ·
        have hv : fillV xs ys = (filled xs ys xs.length, true) := if_pos ⟨c14, by rw [show xs.length = i from by omega]; exact hgd, by rw [show xs.length = i from by omega]; exact c69⟩
        have hvl : (fillV xs ys).1.length = xs.length := by rw [hv]; exact filled_len _ _ _
        have hvm : (fillV xs ys).1 = filled xs ys i := by rw [hv, show xs.length = i from by omega]
        have hv2 : (fillV xs ys).2 = true := by rw [hv]
        refine wl_nil ?_
        refine ce_then ?_
        refine cw_false rfl ?_
        refine cw_skip ?_
        refine ce_then ?_
        refine cw_seq ?_
        refine cw_region ?_
        refine wl_v (ov_move rfl) rfl rfl rfl ?_
        refine wl_v (ov_assign rfl) rfl rfl rfl ?_
        refine wl_v (ov_assign rfl) rfl rfl rfl ?_
        refine wl_nil ?_
        refine ce_then ?_
        refine cw_ret ?_
        refine ce_results (v := .tuple #[.slice A3 (i) (c3), .bool true]) (res2 rfl (rv_t rfl) (rv_t rfl)) (fun w' hw => ?_)
        exact ⟨A3, c3, c3, hs3, (by rw [hvl, show xs.length = i from by omega]; exact hk2), (by rw [hvl, show xs.length = i from by omega, hv2]), ((.consE (show row 23 1 A3 (i) (c3) (cells fL hs3) = row 23 1 A3 ((fillV xs ys).1.length) (c3) (cells fL hs3) by rw [hvl, show xs.length = i from by omega]) (.head) (.consE (show nest 3 1 fI hs3 (filled xs ys i) = nest 3 1 fI hs3 ((fillV xs ys).1) by rw [hvm]) (.head) (.nil)) : Keep _ _).ss hw).to_new⟩
  ·
    have hv : fillV xs ys = ([], false) := if_neg (fun h => c14 h.1)
    refine ct_none fL 23 1 ?_
    refine ct_nest0 3 1 fI ?_
    refine wl_v (ov_not rfl) rfl rfl rfl ?_
    refine wl_nil ?_
    refine ce_then ?_
    refine cw_true rfl ?_
    refine cw_seq ?_
    refine cw_region ?_
    refine wl_v (ov_assign rfl) rfl rfl rfl ?_
    refine wl_v (ov_assign rfl) rfl rfl rfl ?_
    refine wl_nil ?_
    refine ce_then ?_
    refine cw_ret ?_
    refine ce_then_ret ?_
    refine ce_results (v := .tuple #[.slice none (0) (0), .bool false]) (res2 rfl (rv_t rfl) (rv_t rfl)) (fun w' hw => ?_)
    exact ⟨none, 0, 0, [], (by rw [hv]; exact Nat.le_refl _), (by rw [hv] <;> rfl), ((.consE (show row 23 1 none (0) (0) (cells fL ([])) = row 23 1 none ((fillV xs ys).1.length) (0) (cells fL ([])) by rw [hv] <;> rfl) (.tail .head) (.consE (show nest 3 1 fI ([]) ([]) = nest 3 1 fI ([]) ((fillV xs ys).1) by rw [hv]) (.head) (.nil)) : Keep _ _).ss hw).to_new⟩
end Go.Proofs.Ytholcpgoioaccaa.W32
