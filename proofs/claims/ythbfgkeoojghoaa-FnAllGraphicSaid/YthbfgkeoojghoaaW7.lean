/- Walks of functions of the given program: each returns what its Lean function says and leaves the memory that was there as it was. Conditions: those of each theorem. -/
import Derived.Test.YthbfgkeoojghoaaSm
import Derived.Test.YthbfgkeoojghoaaProg
import Derived.Test.YthbfgkeoojghoaaPl
import Derived.Test.YthbfgkeoojghoaaPo
import Derived.Test.YthbfgkeoojghoaaPd
import Derived.Test.YthbfgkeoojghoaaPe
import Derived.Test.YthbfgkeoojghoaaPh
import Derived.Test.YthbfgkeoojghoaaPm
import Derived.Test.YthbfgkeoojghoaaPc
import Derived.Test.YthbfgkeoojghoaaPs
import Derived.Test.YthbfgkeoojghoaaPt
import Derived.Test.YthbfgkeoojghoaaPu
import Derived.Test.YthbfgkeoojghoaaPv
import Derived.Test.YthbfgkeoojghoaaSo
import Derived.Test.YthbfgkeoojghoaaSh
import Derived.Test.YthbfgkeoojghoaaT
import Derived.Test.YthbfgkeoojghoaaW1
import Derived.Test.YthbfgkeoojghoaaW2
import Derived.Test.YthbfgkeoojghoaaW6
import Derived.KernelRfl
namespace Go.Proofs.Ythbfgkeoojghoaa.W7
open Go.Sx Go.RowKit Go.Proofs.Ythbfgkeoojghoaa.T Go.Proofs.Ythbfgkeoojghoaa.W1 Go.Proofs.Ythbfgkeoojghoaa.W2 Go.Proofs.Ythbfgkeoojghoaa.W6
open Go.Plain
set_option linter.unusedVariables false
set_option maxRecDepth 100000 in
theorem sumI_c (w : World) (A : Option Addr) (n : Nat) (c : Nat) (xs : List (Int)) (hA : At w A (cells fI xs)) (eA : xs.length = n) (lA : n ≤ c) (hs : Small xs) : Calls Try.prog 79 #[.slice A (n) (c)] w (Ret fun rv w' => rv = .int .i64 (total xs) ∧ New w w' []) := by
  have oA := hA.atB
  subst eA
  have hlen := hs.1
  refine fn_enter (args := [.slice A (xs.length) (c)]) Try.func79 rfl Try.ntmps79 rfl (SS.start w) ?_
  refine cw_seq ?_
  refine cw_region ?_
  refine wl_v (ov_assign rfl) rfl rfl rfl ?_
  refine wl_nil ?_
  refine ce_then ?_
  refine cw_seq ?_
  refine cw_region ?_
  refine wl_v (ov_assign rfl) rfl rfl rfl ?_
  refine wl_nil ?_
  refine ce_then ?_
  refine cw_seq ?_
  refine cw_seq ?_
  refine cw_region ?_
  refine wl_v (ov_move rfl) rfl rfl rfl ?_
  refine wl_v (ov_len (sliceI_spec sI27) rfl) rfl rfl rfl ?_
  refine wl_v (ov_move rfl) rfl rfl rfl ?_
  refine wl_nil ?_
  refine ce_then ?_
  refine cw_block ?_
  refine cw_loop1 (fun (k : Nat) => [(2, .int .i64 (0)), (6, .slice A (xs.length) (c)), (7, .int .i64 (((xs.length : Nat) : Int))), (3, .int .i64 (total (xs.take k))), (8, .int .i64 (((k : Nat) : Int)))]) (fun (k : Nat) => []) (fun (k : Nat) => k ≤ xs.length) (fun (k : Nat) => xs.length - k) 0 (by omega) (.cons rfl (.cons rfl (.cons rfl (.cons (congrArg (fun z => some (Value.int .i64 z)) (show 0 = (total (xs.take 0)) by first | omega | rfl | (simp; done))) (.cons (congrArg (fun z => some (Value.int .i64 z)) (show 0 = ((0 : Nat) : Int) by first | omega | rfl | (simp; done))) (.nil)))))) (.nil) ?_
  intro R0 k hk hR0
  have hb := total_bd hs k hk
  refine cw_seq ?_
  refine cw_region ?_
  refine wl_if (ov_lss rfl rfl) rfl rfl rfl (fun c9 => ?_) (fun c9 => ?_)
  ·
    refine wl_nil ?_
    refine ce_then ?_
    refine cw_seq ?_
    refine cw_true rfl ?_
    refine cw_skip ?_
    refine ce_then ?_
    refine cw_seq ?_
    refine cw_block ?_
    refine cw_seq ?_
    refine cw_region ?_
    refine wl_v (ov_index (k := k) (c := c) sI27 tI3 rfl rfl (some_holds (q := k * 1) (holds_old oA) (by rw [cells_length fI_len]; have hlt : k < xs.length := (by first | omega | (simp; omega)); omega)) (show k < xs.length from (by first | omega | (simp; omega)))) rfl rfl rfl ?_
    refine wl_v (ov_load tI3 (holds_old oA) rfl (get_fI (show k < xs.length from (by first | omega | (simp; omega))))) rfl rfl rfl ?_
    have hx := hs.at_ (k := k) (by omega)
    refine wl_v (ov_assign rfl) rfl rfl rfl ?_
    refine wl_nil ?_
    refine ce_then ?_
    refine cw_region ?_
    refine wl_v (ov_move rfl) rfl rfl rfl ?_
    refine wl_v (ov_move rfl) rfl rfl rfl ?_
    refine wl_v (ov_add (r := (total (xs.take k)) + (xs.getD k 0)) rfl rfl rfl (by omega)) rfl rfl rfl ?_
    refine wl_v (ov_assign rfl) rfl rfl rfl ?_
    refine wl_nil ?_
    refine ce_block ?_
    refine ce_then ?_
    refine cw_region ?_
    refine wl_v (ov_add (r := ((k + 1 : Nat) : Int)) rfl rfl rfl (by omega)) rfl rfl rfl ?_
    refine wl_v (ov_move rfl) rfl rfl rfl ?_
    refine wl_nil ?_
    exact fun ac_ w_ hs_ => hR0 (k + 1) (by omega) (by omega) ac_ w_ (hs_.weaken (.cons rfl (.cons rfl (.cons rfl (.cons (congrArg (fun z => some (Value.int .i64 z)) (show ((total (xs.take k)) + (xs.getD k 0)) = (total (xs.take (k + 1))) from (total_take (by omega)).symm)) (.cons rfl (.nil)))))) (.nil))
  ·
    refine wl_nil ?_
    refine ce_then ?_
    refine cw_seq ?_
    refine cw_false rfl ?_
    refine cw_exit ?_
    refine ce_then_exit ?_
    refine ce_then_exit ?_
    refine ce_hit ?_
    refine ce_then ?_
    refine cw_seq ?_
    refine cw_region ?_
    refine wl_v (ov_move rfl) rfl rfl rfl ?_
    refine wl_v (ov_assign rfl) rfl rfl rfl ?_
    refine wl_nil ?_
    refine ce_then ?_
    refine cw_ret ?_
    refine ce_results (v := .int .i64 (total (xs.take k))) (res1 rfl (rv_t rfl)) (fun w' hw => ?_)
    exact ⟨(by rw [List.take_of_length_le (by omega)]), (Keep.nil.ss hw).to_new⟩
set_option maxRecDepth 100000 in
theorem each_c (w : World) (A : Option Addr) (n : Nat) (c : Nat) (xs : List (Int)) (Fc : FuncId) (cs : List Value) (f : Nat → Int) (hA : At w A (cells fI xs)) (eA : xs.length = n) (lA : n ≤ c) (hs : xs.length ≤ 4000000) (hen : Enters Try.prog Fc) (hf : Valid xs → ∀ k : Nat, k < xs.length → ∀ w', Below w.heap.size w w' → Calls Try.prog Fc ([] ++ [Value.int .i64 ((k : Nat) : Int)] ++ cs).toArray w' (Ret fun v w'' => v = .int .i64 (f k) ∧ New w' w'' [])) : Calls Try.prog 82 #[.slice A (n) (c), .func (.func Fc) #[] cs.toArray] w (Ret fun rv w' => ∃ A2 c2, ((eachL xs f).length ≤ c2) ∧ rv = .slice A2 ((eachL xs f).length) (c2) ∧ New w w' [row 3 1 A2 ((eachL xs f).length) (c2) (cells fI (eachL xs f))]) := by
  have oA := hA.atB
  subst eA
  refine fn_enter (args := [.slice A (xs.length) (c), .func (.func Fc) #[] cs.toArray]) Try.func82 rfl Try.ntmps82 rfl (SS.start w) ?_
  refine cw_seq ?_
  refine cw_region ?_
  refine wl_v (ov_assign rfl) rfl rfl rfl ?_
  refine wl_nil ?_
  refine ce_then ?_
  refine cw_seq ?_
  refine cw_seq ?_
  refine cw_region ?_
  refine wl_v (ov_move rfl) rfl rfl rfl ?_
  refine wl_r (or_call (fv := []) (vs := [.slice A (xs.length) (c)]) (cs := []) en78 rfl rfl (call_v (fun w hw => validI_c w A xs.length c xs ((holds_old oA) w hw) rfl lA (by first | assumption | omega | (simp; omega))))) rfl rfl (kt_if rfl (fun c8 => ?_) (fun c8 => ?_))
  ·
    refine wl_v (ov_not rfl) rfl rfl rfl ?_
    refine wl_nil ?_
    refine ce_then ?_
    refine cw_false rfl ?_
    refine cw_skip ?_
    refine ce_then ?_
    refine cw_seq ?_
    have hV := c8
    have hlen := hV.1
    have hyes : eachL xs f = (List.range xs.length).map f := if_pos c8
    refine cw_region ?_
    refine wl_v (ov_move rfl) rfl rfl rfl ?_
    refine wl_v (ov_len (sliceI_spec sI27) rfl) rfl rfl rfl ?_
    refine wl_r (or_makeSlice (m := xs.length) sI27 tI3 rfl rfl (made_fI _) (by omega) (show xs.length ≤ maxLen by simp only [maxLen]; omega)) rfl rfl (kt1 rfl (fun g12 => ?_))
    refine wl_v (ov_assign rfl) rfl rfl rfl ?_
    refine wl_nil ?_
    refine ce_then ?_
    refine cw_seq ?_
    refine cw_seq ?_
    refine cw_region ?_
    refine wl_v (ov_move rfl) rfl rfl rfl ?_
    refine wl_v (ov_len (sliceI_spec sI27) rfl) rfl rfl rfl ?_
    refine wl_v (ov_move rfl) rfl rfl rfl ?_
    refine wl_nil ?_
    refine ce_then ?_
    refine cw_block ?_
    refine cw_loop1 (fun (k : Nat) => [(1, .func (.func Fc) #[] cs.toArray), (4, .slice none (0) (0)), (5, .slice (some ⟨g12, 0, none⟩) (xs.length) (xs.length)), (14, .int .i64 (((xs.length : Nat) : Int))), (15, .int .i64 (((k : Nat) : Int)))]) (fun (k : Nat) => [row 3 1 (some ⟨g12, 0, none⟩) (xs.length) (xs.length) (cells fI ((List.range k).map f ++ List.replicate (xs.length - k) 0))]) (fun (k : Nat) => k ≤ xs.length) (fun (k : Nat) => xs.length - k) 0 (by omega) (.cons rfl (.cons rfl (.cons rfl (.cons rfl (.cons (congrArg (fun z => some (Value.int .i64 z)) (show 0 = ((0 : Nat) : Int) by first | omega | rfl | (simp; done))) (.nil)))))) (.consE (show row 3 1 (some ⟨g12, 0, none⟩) (xs.length) (xs.length) (cells fI (List.replicate xs.length 0)) = row 3 1 (some ⟨g12, 0, none⟩) (xs.length) (xs.length) (cells fI ((List.range 0).map f ++ List.replicate (xs.length - 0) 0)) by simp) (.head) (.nil)) ?_
    intro R0 k hk hR0
    refine cw_seq ?_
    refine cw_region ?_
    refine wl_if (ov_lss rfl rfl) rfl rfl rfl (fun c16 => ?_) (fun c16 => ?_)
    ·
      refine wl_nil ?_
      refine ce_then ?_
      refine cw_seq ?_
      refine cw_true rfl ?_
      refine cw_skip ?_
      refine ce_then ?_
      refine cw_seq ?_
      refine cw_block ?_
      refine cw_seq ?_
      refine cw_region ?_
      refine wl_v (ov_move rfl) rfl rfl rfl ?_
      refine wl_v (ov_assign rfl) rfl rfl rfl ?_
      refine wl_nil ?_
      refine ce_then ?_
      refine cw_region ?_
      refine wl_v (ov_move rfl) rfl rfl rfl ?_
      refine wl_v (ov_move rfl) rfl rfl rfl ?_
      refine wl_v (ov_move rfl) rfl rfl rfl ?_
      refine wl_v (ov_move rfl) rfl rfl rfl ?_
      refine wl_r (or_call (fv := []) (vs := [.int .i64 (((k : Nat) : Int))]) (cs := cs) hen rfl rfl (call_v (fun w hw => hf hV k (by omega) w hw.below))) rfl rfl (kt0 rfl ?_)
      refine wl_v (ov_index (k := k) (c := xs.length) sI27 tI3 rfl rfl (some_holds (q := k * 1) (holds_row (List.Mem.head _)) (by rw [cells_length fI_len]; have hlt : k < ((List.range k).map f ++ List.replicate (xs.length - k) 0).length := (by first | omega | (simp; omega)); omega)) (show k < xs.length from (by first | omega | (simp; omega)))) rfl rfl rfl ?_
      refine wl_r0 (or_store_row (vs := [.int .i64 (f k)]) (cs' := cells fI (((List.range k).map f ++ List.replicate (xs.length - k) 0).set k (f k))) (.head) tI3 rfl rfl rfl rfl (by rw [cells_length fI_len]; have hlt := (show k < ((List.range k).map f ++ List.replicate (xs.length - k) 0).length from (by first | omega | (simp; omega))); simp only [List.length_cons, List.length_nil]; omega) (by simp) (cells_splice fI_len (show k < ((List.range k).map f ++ List.replicate (xs.length - k) 0).length from (by first | omega | (simp; omega))) (f k))) rfl rfl (kn0 ?_)
      refine wl_nil ?_
      refine ce_block ?_
      refine ce_then ?_
      refine cw_region ?_
      refine wl_v (ov_add (r := ((k + 1 : Nat) : Int)) rfl rfl rfl (by omega)) rfl rfl rfl ?_
      refine wl_v (ov_move rfl) rfl rfl rfl ?_
      refine wl_nil ?_
      exact fun ac_ w_ hs_ => hR0 (k + 1) (by omega) (by omega) ac_ w_ (hs_.weaken (.cons rfl (.cons rfl (.cons rfl (.cons rfl (.cons rfl (.nil)))))) (.consE (show row 3 1 (some ⟨g12, 0, none⟩) (xs.length) (xs.length) (cells fI (((List.range k).map f ++ List.replicate (xs.length - k) 0).set k (f k))) = row 3 1 (some ⟨g12, 0, none⟩) (xs.length) (xs.length) (cells fI ((List.range (k + 1)).map f ++ List.replicate (xs.length - (k + 1)) 0)) by rw [made_step (by omega)]) (.head) (.nil)))
    ·
      refine wl_nil ?_
      refine ce_then ?_
      refine cw_seq ?_
      refine cw_false rfl ?_
      refine cw_exit ?_
      refine ce_then_exit ?_
      refine ce_then_exit ?_
      refine ce_hit ?_
      refine ce_then ?_
      refine cw_seq ?_
      refine cw_region ?_
      refine wl_v (ov_move rfl) rfl rfl rfl ?_
      refine wl_v (ov_assign rfl) rfl rfl rfl ?_
      refine wl_nil ?_
      refine ce_then ?_
      refine cw_ret ?_
      refine ce_results (v := .slice (some ⟨g12, 0, none⟩) (xs.length) (xs.length)) (res1 rfl (rv_t rfl)) (fun w' hw => ?_)
      exact ⟨some ⟨g12, 0, none⟩, xs.length, (by rw [hyes]; simp), (by rw [hyes]; simp), ((.consE (show row 3 1 (some ⟨g12, 0, none⟩) (xs.length) (xs.length) (cells fI ((List.range k).map f ++ List.replicate (xs.length - k) 0)) = row 3 1 (some ⟨g12, 0, none⟩) ((eachL xs f).length) (xs.length) (cells fI (eachL xs f)) by rw [hyes, show k = xs.length from by omega]; simp) (.head) (.nil) : Keep _ _).ss hw).to_new⟩
  ·
    refine wl_v (ov_not rfl) rfl rfl rfl ?_
    refine wl_nil ?_
    refine ce_then ?_
    refine cw_true rfl ?_
    refine cw_seq ?_
    have hno : eachL xs f = [] := if_neg c8
    refine ct_none fI 3 1 ?_
    refine cw_region ?_
    refine wl_v (ov_assign rfl) rfl rfl rfl ?_
    refine wl_nil ?_
    refine ce_then ?_
    refine cw_ret ?_
    refine ce_then_ret ?_
    refine ce_results (v := .slice none (0) (0)) (res1 rfl (rv_t rfl)) (fun w' hw => ?_)
    exact ⟨none, 0, (by rw [hno]; exact Nat.le_refl _), (by rw [hno] <;> rfl), ((.consE (show row 3 1 none (0) (0) (cells fI ([])) = row 3 1 none ((eachL xs f).length) (0) (cells fI (eachL xs f)) by rw [hno] <;> rfl) (.head) (.nil) : Keep _ _).ss hw).to_new⟩
set_option maxRecDepth 100000 in
theorem slacks1_c (w : World) (i : Nat) (g1 : Nat) (A : Option Addr) (n : Nat) (c : Nat) (xs : List Int) (hg1 : At w (some ⟨g1, 0, none⟩) [.slice A (n) (c)]) (hA : At w A (cells fI xs)) (eA : xs.length = n) (lA : n ≤ c) (hs : Small xs) (hi : i < n) : Calls Try.prog 143 #[.int .i64 (((i : Nat) : Int)), elp (some ⟨g1, 0, none⟩) (0)] w (Ret fun rv w' => rv = .int .i64 (slackAt xs (i + 1)) ∧ New w w' []) := by
  have og1 := hg1.atB
  have oA := hA.atB
  have hlen := hs.1
  have hpb := prod_bd (k := i + 1) (by omega)
  have htb := total_bd hs (i + 1) (by omega)
  have hdl : (xs.drop (i + 1)).length = n - (i + 1) := by rw [List.length_drop, eA]
  refine fn_enter (args := [.int .i64 (((i : Nat) : Int)), elp (some ⟨g1, 0, none⟩) (0)]) Try.func143 rfl Try.ntmps143 rfl (SS.start w) ?_
  refine cw_seq ?_
  refine cw_region ?_
  refine wl_v (ov_assign rfl) rfl rfl rfl ?_
  refine wl_nil ?_
  refine ce_then ?_
  refine cw_seq ?_
  refine cw_region ?_
  refine wl_v (ov_move rfl) rfl rfl rfl ?_
  refine wl_v (ov_add (r := ((i + 1 : Nat) : Int)) rfl rfl rfl (by omega)) rfl rfl rfl ?_
  refine wl_v (ov_assign rfl) rfl rfl rfl ?_
  refine wl_nil ?_
  refine ce_then ?_
  refine cw_seq ?_
  refine cw_region ?_
  refine wl_v (ov_move rfl) rfl rfl rfl ?_
  refine wl_v (ov_move rfl) rfl rfl rfl ?_
  refine wl_v (ov_sub (r := ((i + 1 : Nat) : Int) - 1) rfl rfl rfl (by omega)) rfl rfl rfl ?_
  refine wl_v (ov_mul (r := ((i + 1 : Nat) : Int) * (((i + 1 : Nat) : Int) - 1)) rfl rfl rfl (by omega)) rfl rfl rfl ?_
  refine wl_v (ov_load tI27 (holds_old og1) rfl rfl) rfl rfl rfl ?_
  refine wl_v (ov_move rfl) rfl rfl rfl ?_
  refine wl_v (ov_slice_h (h := i + 1) sI27 tI3 rfl rfl (by omega)) rfl rfl rfl ?_
  refine wl_r (or_call (fv := []) (vs := [.slice A (i + 1) (c)]) (cs := []) en79 rfl rfl (call_v (fun w hw => sumI_c w A (i + 1) c (xs.take (i + 1)) ((holds_takeC (k := (i + 1)) fI_len (holds_old oA)) w hw) (by rw [List.length_take]; omega) (by omega) (hs.take _)))) rfl rfl (kt0 rfl ?_)
  refine wl_v (ov_sub (r := (((i + 1 : Nat) : Int) * (((i + 1 : Nat) : Int) - 1)) - (total (xs.take (i + 1)))) rfl rfl rfl (by omega)) rfl rfl rfl ?_
  refine wl_v (ov_assign rfl) rfl rfl rfl ?_
  refine wl_nil ?_
  refine ce_then ?_
  refine cw_seq ?_
  refine cw_seq ?_
  refine cw_region ?_
  refine wl_v (ov_load tI27 (holds_old og1) rfl rfl) rfl rfl rfl ?_
  refine wl_v (ov_move rfl) rfl rfl rfl ?_
  refine wl_v (ov_slice_l (l := i + 1) sI27 tI3 rfl rfl (by omega)) rfl rfl rfl ?_
  refine wl_v (ov_len (sliceI_spec sI27) rfl) rfl rfl rfl ?_
  refine wl_v (ov_move rfl) rfl rfl rfl ?_
  refine wl_nil ?_
  refine ce_then ?_
  refine cw_block ?_
  refine cw_loop1 (fun (q : Nat) => [(3, .int .i64 (0)), (4, .int .i64 (((i + 1 : Nat) : Int))), (21, .slice (dropA A c (i + 1) 1) (n - (i + 1)) (c - (i + 1))), (22, .int .i64 (((n - (i + 1) : Nat) : Int))), (5, .int .i64 (((i + 1 : Nat) : Int) * (((i + 1 : Nat) : Int) - 1) - total (xs.take (i + 1)) + minsum ((xs.drop (i + 1)).take q) ((i + 1 : Nat) : Int))), (23, .int .i64 (((q : Nat) : Int)))]) (fun (q : Nat) => []) (fun (q : Nat) => q ≤ n - (i + 1)) (fun (q : Nat) => n - (i + 1) - q) 0 (by omega) (.cons rfl (.cons rfl (.cons rfl (.cons rfl (.cons (congrArg (fun z => some (Value.int .i64 z)) (show ((((i + 1 : Nat) : Int) * (((i + 1 : Nat) : Int) - 1)) - (total (xs.take (i + 1)))) = (((i + 1 : Nat) : Int) * (((i + 1 : Nat) : Int) - 1) - total (xs.take (i + 1)) + minsum ((xs.drop (i + 1)).take 0) ((i + 1 : Nat) : Int)) from (by simp [minsum, total]))) (.cons (congrArg (fun z => some (Value.int .i64 z)) (show 0 = ((0 : Nat) : Int) by first | omega | rfl | (simp; done))) (.nil))))))) (.nil) ?_
  intro R0 q hk hR0
  have hmb := minsum_bd (hs.drop (i + 1)) (k := ((i + 1 : Nat) : Int)) (by omega) q (by omega)
  refine cw_seq ?_
  refine cw_region ?_
  refine wl_if (ov_lss rfl rfl) rfl rfl rfl (fun c24 => ?_) (fun c24 => ?_)
  ·
    refine wl_nil ?_
    refine ce_then ?_
    refine cw_seq ?_
    refine cw_true rfl ?_
    refine cw_skip ?_
    refine ce_then ?_
    refine cw_seq ?_
    refine cw_block ?_
    refine cw_seq ?_
    refine cw_region ?_
    refine wl_v (ov_index (k := q) (c := c - (i + 1)) sI27 tI3 rfl rfl (some_holds (q := q * 1) (holds_dropC (l := (i + 1)) fI_len (holds_old oA) (by first | exact lA | omega)) (by rw [cells_length fI_len]; have hlt : q < (xs.drop (i + 1)).length := (by omega); omega)) (show q < n - (i + 1) from (by omega))) rfl rfl rfl ?_
    refine wl_v (ov_load tI3 (holds_dropC (l := (i + 1)) fI_len (holds_old oA) (by first | exact lA | omega)) rfl (get_fI (show q < (xs.drop (i + 1)).length from (by omega)))) rfl rfl rfl ?_
    have hx := (hs.drop (i + 1)).at_ (k := q) (by omega)
    refine wl_v (ov_assign rfl) rfl rfl rfl ?_
    refine wl_nil ?_
    refine ce_then ?_
    refine cw_region ?_
    refine wl_v (ov_move rfl) rfl rfl rfl ?_
    refine wl_v (ov_move rfl) rfl rfl rfl ?_
    refine wl_v (ov_move rfl) rfl rfl rfl ?_
    refine wl_v (ov_min (r := min ((xs.drop (i + 1)).getD q 0) ((i + 1 : Nat) : Int)) rfl rfl (by first | omega | (split <;> omega))) rfl rfl rfl ?_
    refine wl_v (ov_add (r := (((i + 1 : Nat) : Int) * (((i + 1 : Nat) : Int) - 1) - total (xs.take (i + 1)) + minsum ((xs.drop (i + 1)).take q) ((i + 1 : Nat) : Int)) + (min ((xs.drop (i + 1)).getD q 0) ((i + 1 : Nat) : Int))) rfl rfl rfl (by omega)) rfl rfl rfl ?_
    refine wl_v (ov_assign rfl) rfl rfl rfl ?_
    refine wl_nil ?_
    refine ce_block ?_
    refine ce_then ?_
    refine cw_region ?_
    refine wl_v (ov_add (r := ((q + 1 : Nat) : Int)) rfl rfl rfl (by omega)) rfl rfl rfl ?_
    refine wl_v (ov_move rfl) rfl rfl rfl ?_
    refine wl_nil ?_
    exact fun ac_ w_ hs_ => hR0 (q + 1) (by omega) (by omega) ac_ w_ (hs_.weaken (.cons rfl (.cons rfl (.cons rfl (.cons rfl (.cons (congrArg (fun z => some (Value.int .i64 z)) (show ((((i + 1 : Nat) : Int) * (((i + 1 : Nat) : Int) - 1) - total (xs.take (i + 1)) + minsum ((xs.drop (i + 1)).take q) ((i + 1 : Nat) : Int)) + (min ((xs.drop (i + 1)).getD q 0) ((i + 1 : Nat) : Int))) = (((i + 1 : Nat) : Int) * (((i + 1 : Nat) : Int) - 1) - total (xs.take (i + 1)) + minsum ((xs.drop (i + 1)).take (q + 1)) ((i + 1 : Nat) : Int)) from (by rw [minsum_take (by omega)]; omega))) (.cons rfl (.nil))))))) (.nil))
  ·
    refine wl_nil ?_
    refine ce_then ?_
    refine cw_seq ?_
    refine cw_false rfl ?_
    refine cw_exit ?_
    refine ce_then_exit ?_
    refine ce_then_exit ?_
    refine ce_hit ?_
    refine ce_then ?_
    refine cw_seq ?_
    refine cw_region ?_
    refine wl_v (ov_move rfl) rfl rfl rfl ?_
    refine wl_v (ov_assign rfl) rfl rfl rfl ?_
    refine wl_nil ?_
    refine ce_then ?_
    refine cw_ret ?_
    refine ce_results (v := .int .i64 (((i + 1 : Nat) : Int) * (((i + 1 : Nat) : Int) - 1) - total (xs.take (i + 1)) + minsum ((xs.drop (i + 1)).take q) ((i + 1 : Nat) : Int))) (res1 rfl (rv_t rfl)) (fun w' hw => ?_)
    exact ⟨(by have e : (xs.drop (i + 1)).take q = xs.drop (i + 1) := List.take_of_length_le (by omega); rw [slackAt_eq (by omega), e]), (Keep.nil.ss hw).to_new⟩
set_option maxRecDepth 100000 in
theorem SlacksOfI_c (w : World) (A : Option Addr) (n : Nat) (c : Nat) (xs : List (Int)) (hA : At w A (cells fI xs)) (eA : xs.length = n) (lA : n ≤ c) (hs : xs.length ≤ 4000000) : Calls Try.prog 120 #[.slice A (n) (c)] w (Ret fun rv w' => ∃ A2 c2, ((slacksV xs).length ≤ c2) ∧ rv = .slice A2 ((slacksV xs).length) (c2) ∧ New w w' [row 3 1 A2 ((slacksV xs).length) (c2) (cells fI (slacksV xs))]) := by
  have oA := hA.atB
  subst eA
  refine fn_enter (args := [.slice A (xs.length) (c)]) Try.func120 rfl Try.ntmps120 rfl (SS.start w) ?_
  refine cw_seq ?_
  refine cw_region ?_
  refine wl_v (ov_assign rfl) rfl rfl rfl ?_
  refine wl_nil ?_
  refine ce_then ?_
  refine cw_seq ?_
  refine cw_region ?_
  refine wl_v (ov_move rfl) rfl rfl rfl ?_
  refine wl_r (or_call (fv := []) (vs := [.slice A (xs.length) (c)]) (cs := []) en81 rfl rfl (call_x2 (fun w hw => fallingI_c w A xs.length c xs ((holds_old oA) w hw) rfl lA (by first | assumption | omega | (simp; omega))))) rfl rfl (kt2p rfl (fun A2_5 c2_5 h_5 => ?_))
  refine wl_r (or_alloc tI27 rfl) rfl rfl (kt1 rfl (fun g3 => ?_))
  refine wl_r0 (or_store_blk (vs := [.slice A2_5 (xs.length) (xs.length)]) (cs' := [.slice A2_5 (xs.length) (xs.length)]) (.head) tI27 rfl rfl rfl rfl (Nat.le_of_ble_eq_true rfl) rfl) rfl rfl (kn0 ?_)
  refine wl_nil ?_
  refine ce_then ?_
  refine cw_seq ?_
  refine cw_region ?_
  refine wl_v (ov_move rfl) rfl rfl rfl ?_
  refine wl_v (ov_makeFunc (vs := #[elp (some ⟨g3, 0, none⟩) (0)]) rfl) rfl rfl rfl ?_
  refine wl_r (or_call (fv := []) (vs := [.slice A (xs.length) (c), .func (.func 143) #[] #[elp (some ⟨g3, 0, none⟩) (0)]]) (cs := []) en82 rfl rfl (call_x2 (fun w hw => each_c w A xs.length c xs 143 ([elp (some ⟨g3, 0, none⟩) (0)]) (fun i => slackAt (fall xs) (i + 1)) ((holds_old oA) w hw) rfl lA (by first | assumption | omega | (simp; omega)) en143 (fun hV k hk w' hb => slacks1_c w' k g3 A2_5 xs.length xs.length (fall xs) ((holds_blk (List.Mem.head _)) w' (hw.later hb)) ((holds_row (List.Mem.tail _ (List.Mem.head _))) w' (hw.later hb)) (fall_length _) (Nat.le_refl _) hV.fall.small hk)))) rfl rfl (kt2p rfl (fun A2_8 c2_8 h_8 => ?_))
  refine wl_v (ov_assign rfl) rfl rfl rfl ?_
  refine wl_nil ?_
  refine ce_then ?_
  refine cw_ret ?_
  refine ce_results (v := .slice A2_8 ((eachL xs (fun i => slackAt (fall xs) (i + 1))).length) (c2_8)) (res1 rfl (rv_t rfl)) (fun w' hw => ?_)
  exact ⟨A2_8, c2_8, h_8, rfl, ((.cons (.head) (.nil) : Keep _ _).ss hw).to_new⟩
set_option maxRecDepth 100000 in
theorem slacksS_c (w : World) (A : Option Addr) (n : Nat) (c : Nat) (xs : List (Int)) (hA : At w A (cells fI xs)) (eA : xs.length = n) (lA : n ≤ c) (hs : Valid xs) : Calls Try.prog 118 #[.slice A (n) (c)] w (Ret fun rv w' => ∃ A2 c2, (n ≤ c2) ∧ rv = .slice A2 (n) (c2) ∧ New w w' [row 3 1 A2 (n) (c2) (cells fI (slacksV xs))]) := by
  have oA := hA.atB
  subst eA
  have hlen := hs.1
  have hfl := fall_length xs
  have hsm := hs.fall.small
  refine fn_enter (args := [.slice A (xs.length) (c)]) Try.func118 rfl Try.ntmps118 rfl (SS.start w) ?_
  refine cw_seq ?_
  refine cw_region ?_
  refine wl_v (ov_assign rfl) rfl rfl rfl ?_
  refine wl_nil ?_
  refine ce_then ?_
  refine cw_seq ?_
  refine cw_region ?_
  refine wl_v (ov_move rfl) rfl rfl rfl ?_
  refine wl_r (or_call (fv := []) (vs := [.slice A (xs.length) (c)]) (cs := []) en140 rfl rfl (call_x2 (fun w hw => fallingS_c w A xs.length c xs ((holds_old oA) w hw) rfl lA (by first | assumption | omega | (simp; omega))))) rfl rfl (kt2p rfl (fun A2_9 c2_9 h_9 => ?_))
  refine wl_v (ov_assign rfl) rfl rfl rfl ?_
  refine wl_nil ?_
  refine ce_then ?_
  refine cw_seq ?_
  refine cw_region ?_
  refine wl_r (or_buildSlice (e := 3) (size := 1) (is := []) (vs := []) (cs := cells fI ([])) rfl rfl rfl (by decide) (fun _ => by kernel_rfl)) rfl rfl (kt1 rfl (fun g10 => ?_))
  refine wl_v (ov_assign rfl) rfl rfl rfl ?_
  refine wl_nil ?_
  refine ce_then ?_
  refine cw_seq ?_
  refine cw_seq ?_
  refine cw_region ?_
  refine wl_v (ov_assign rfl) rfl rfl rfl ?_
  refine wl_nil ?_
  refine ce_then ?_
  refine cw_block ?_
  refine cw_loop3 (fun (q : Nat) (A2 : Option Addr) (c2 : Nat) => [(2, .slice none (0) (0)), (3, .slice A2_9 (xs.length) (c2_9)), (4, .slice A2 (q) (c2)), (5, .int .i64 (((q + 1 : Nat) : Int)))]) (fun (q : Nat) (A2 : Option Addr) (c2 : Nat) => [row 3 1 A2 (q) (c2) (cells fI ((List.range q).map (fun i => slackAt (fall xs) (i + 1)))), row 3 1 A2_9 (xs.length) (c2_9) (cells fI (fall xs))]) (fun (q : Nat) (A2 : Option Addr) (c2 : Nat) => q ≤ xs.length ∧ q ≤ c2) (fun (q : Nat) (A2 : Option Addr) (c2 : Nat) => xs.length - q) 0 (some ⟨g10, 0, none⟩) 0 ⟨by omega, Nat.le_refl _⟩ (.cons rfl (.cons rfl (.cons rfl (.cons (congrArg (fun z => some (Value.int .i64 z)) (show 1 = ((0 + 1 : Nat) : Int) by first | omega | rfl | (simp; done))) (.nil))))) (.consE (show row 3 1 (some ⟨g10, 0, none⟩) (0) (0) (cells fI ([])) = row 3 1 (some ⟨g10, 0, none⟩) (0) (0) (cells fI ((List.range 0).map (fun i => slackAt (fall xs) (i + 1)))) by rfl) (.head) (.cons (.head) (.nil))) ?_
  intro R0 q A2 c2 hk hR0
  obtain ⟨hk1, hk2⟩ := hk
  have hpb := prod_bd (k := q + 1) (by omega)
  refine cw_seq ?_
  refine cw_seq ?_
  refine cw_region ?_
  refine wl_v (ov_move rfl) rfl rfl rfl ?_
  refine wl_v (ov_move rfl) rfl rfl rfl ?_
  refine wl_v (ov_len (sliceI_spec sI27) rfl) rfl rfl rfl ?_
  refine wl_if (ov_leq rfl rfl) rfl rfl rfl (fun c14 => ?_) (fun c14 => ?_)
  ·
    refine wl_nil ?_
    refine ce_then ?_
    refine cw_true rfl ?_
    refine cw_skip ?_
    refine ce_then ?_
    refine cw_seq ?_
    refine cw_block ?_
    refine cw_seq ?_
    refine cw_region ?_
    refine wl_v (ov_move rfl) rfl rfl rfl ?_
    refine wl_v (ov_move rfl) rfl rfl rfl ?_
    refine wl_v (ov_sub (r := ((q + 1 : Nat) : Int) - 1) rfl rfl rfl (by omega)) rfl rfl rfl ?_
    refine wl_v (ov_mul (r := ((q + 1 : Nat) : Int) * (((q + 1 : Nat) : Int) - 1)) rfl rfl rfl (by omega)) rfl rfl rfl ?_
    refine wl_v (ov_assign rfl) rfl rfl rfl ?_
    refine wl_nil ?_
    refine ce_then ?_
    refine cw_seq ?_
    refine cw_seq ?_
    refine cw_region ?_
    refine wl_v (ov_assign rfl) rfl rfl rfl ?_
    refine wl_nil ?_
    refine ce_then ?_
    refine cw_block ?_
    refine cw_loop1 (fun (j : Nat) => [(2, .slice none (0) (0)), (3, .slice A2_9 (xs.length) (c2_9)), (4, .slice A2 (q) (c2)), (5, .int .i64 (((q + 1 : Nat) : Int))), (6, .int .i64 (slackTo (fall xs) (q + 1) j)), (7, .int .i64 (((j : Nat) : Int)))]) (fun (j : Nat) => [row 3 1 A2 (q) (c2) (cells fI ((List.range q).map (fun i => slackAt (fall xs) (i + 1)))), row 3 1 A2_9 (xs.length) (c2_9) (cells fI (fall xs))]) (fun (j : Nat) => j ≤ xs.length) (fun (j : Nat) => xs.length - j) 0 (by omega) (.cons rfl (.cons rfl (.cons rfl (.cons rfl (.cons (congrArg (fun z => some (Value.int .i64 z)) (show (((q + 1 : Nat) : Int) * (((q + 1 : Nat) : Int) - 1)) = (slackTo (fall xs) (q + 1) 0) from rfl)) (.cons (congrArg (fun z => some (Value.int .i64 z)) (show 0 = ((0 : Nat) : Int) by first | omega | rfl | (simp; done))) (.nil))))))) (.cons (.head) (.cons (.head) (.nil))) ?_
    intro R1 j hk1 hR1
    have hsb := slackTo_bd hsm (k := q + 1) (by omega) j (by omega)
    refine cw_seq ?_
    refine cw_seq ?_
    refine cw_region ?_
    refine wl_v (ov_move rfl) rfl rfl rfl ?_
    refine wl_v (ov_move rfl) rfl rfl rfl ?_
    refine wl_v (ov_len (sliceI_spec sI27) rfl) rfl rfl rfl ?_
    refine wl_if (ov_lss rfl rfl) rfl rfl rfl (fun c24 => ?_) (fun c24 => ?_)
    ·
      refine wl_nil ?_
      refine ce_then ?_
      refine cw_true rfl ?_
      refine cw_skip ?_
      refine ce_then ?_
      refine cw_seq ?_
      refine cw_block ?_
      refine cw_seq ?_
      refine cw_region ?_
      refine wl_v (ov_move rfl) rfl rfl rfl ?_
      refine wl_v (ov_move rfl) rfl rfl rfl ?_
      refine wl_if (ov_lss rfl rfl) rfl rfl rfl (fun c29 => ?_) (fun c29 => ?_)
      ·
        refine wl_nil ?_
        refine ce_then ?_
        refine cw_true rfl ?_
        refine cw_region ?_
        refine wl_v (ov_move rfl) rfl rfl rfl ?_
        refine wl_v (ov_move rfl) rfl rfl rfl ?_
        refine wl_v (ov_move rfl) rfl rfl rfl ?_
        refine wl_v (ov_index (k := j) (c := c2_9) sI27 tI3 rfl rfl (some_holds (q := j * 1) (holds_row (List.Mem.tail _ (List.Mem.head _))) (by rw [cells_length fI_len]; have hlt : j < (fall xs).length := (by omega); omega)) (show j < xs.length from (by omega))) rfl rfl rfl ?_
        refine wl_v (ov_load tI3 (holds_row (List.Mem.tail _ (List.Mem.head _))) rfl (get_fI (show j < (fall xs).length from (by omega)))) rfl rfl rfl ?_
        have hx := hsm.at_ (k := j) (by omega)
        refine wl_v (ov_sub (r := (slackTo (fall xs) (q + 1) j) - ((fall xs).getD j 0)) rfl rfl rfl (by omega)) rfl rfl rfl ?_
        refine wl_v (ov_assign rfl) rfl rfl rfl ?_
        refine wl_nil ?_
        refine ce_block ?_
        refine ce_then ?_
        refine cw_region ?_
        refine wl_v (ov_move rfl) rfl rfl rfl ?_
        refine wl_v (ov_add (r := ((j + 1 : Nat) : Int)) rfl rfl rfl (by omega)) rfl rfl rfl ?_
        refine wl_v (ov_assign rfl) rfl rfl rfl ?_
        refine wl_nil ?_
        exact fun ac_ w_ hs_ => hR1 (j + 1) (by omega) (by omega) ac_ w_ (hs_.weaken (.cons rfl (.cons rfl (.cons rfl (.cons rfl (.cons (congrArg (fun z => some (Value.int .i64 z)) (show ((slackTo (fall xs) (q + 1) j) - ((fall xs).getD j 0)) = (slackTo (fall xs) (q + 1) (j + 1)) from (by rw [slackTo, if_pos (by omega)]; omega))) (.cons rfl (.nil))))))) (.cons (.head) (.cons (.head) (.nil))))
      ·
        refine wl_nil ?_
        refine ce_then ?_
        refine cw_false rfl ?_
        refine cw_region ?_
        refine wl_v (ov_move rfl) rfl rfl rfl ?_
        refine wl_v (ov_move rfl) rfl rfl rfl ?_
        refine wl_v (ov_move rfl) rfl rfl rfl ?_
        refine wl_v (ov_index (k := j) (c := c2_9) sI27 tI3 rfl rfl (some_holds (q := j * 1) (holds_row (List.Mem.tail _ (List.Mem.head _))) (by rw [cells_length fI_len]; have hlt : j < (fall xs).length := (by omega); omega)) (show j < xs.length from (by omega))) rfl rfl rfl ?_
        refine wl_v (ov_load tI3 (holds_row (List.Mem.tail _ (List.Mem.head _))) rfl (get_fI (show j < (fall xs).length from (by omega)))) rfl rfl rfl ?_
        have hx := hsm.at_ (k := j) (by omega)
        refine wl_v (ov_move rfl) rfl rfl rfl ?_
        refine wl_v (ov_min (r := min ((fall xs).getD j 0) ((q + 1 : Nat) : Int)) rfl rfl (by first | omega | (split <;> omega))) rfl rfl rfl ?_
        refine wl_v (ov_add (r := (slackTo (fall xs) (q + 1) j) + (min ((fall xs).getD j 0) ((q + 1 : Nat) : Int))) rfl rfl rfl (by omega)) rfl rfl rfl ?_
        refine wl_v (ov_assign rfl) rfl rfl rfl ?_
        refine wl_nil ?_
        refine ce_block ?_
        refine ce_then ?_
        refine cw_region ?_
        refine wl_v (ov_move rfl) rfl rfl rfl ?_
        refine wl_v (ov_add (r := ((j + 1 : Nat) : Int)) rfl rfl rfl (by omega)) rfl rfl rfl ?_
        refine wl_v (ov_assign rfl) rfl rfl rfl ?_
        refine wl_nil ?_
        exact fun ac_ w_ hs_ => hR1 (j + 1) (by omega) (by omega) ac_ w_ (hs_.weaken (.cons rfl (.cons rfl (.cons rfl (.cons rfl (.cons (congrArg (fun z => some (Value.int .i64 z)) (show ((slackTo (fall xs) (q + 1) j) + (min ((fall xs).getD j 0) ((q + 1 : Nat) : Int))) = (slackTo (fall xs) (q + 1) (j + 1)) from (by rw [slackTo, if_neg (by omega)]))) (.cons rfl (.nil))))))) (.cons (.head) (.cons (.head) (.nil))))
    ·
      refine wl_nil ?_
      refine ce_then ?_
      refine cw_false rfl ?_
      refine cw_exit ?_
      refine ce_then_exit ?_
      refine ce_then_exit ?_
      refine ce_hit ?_
      refine ce_then ?_
      refine cw_region ?_
      refine wl_v (ov_move rfl) rfl rfl rfl ?_
      refine wl_v (ov_move rfl) rfl rfl rfl ?_
      refine wl_r (or_buildSlice (e := 3) (size := 1) (is := [0]) (vs := [.int .i64 (slackTo (fall xs) (q + 1) j)]) (cs := cells fI ([slackTo (fall xs) (q + 1) j])) rfl rfl rfl (by decide) (fun _ => by kernel_rfl)) rfl rfl (kt1 rfl (fun g46 => ?_))
      refine wl_r (or_append (c2 := 1) sI27 tI3 rfl (by decide) rfl rfl (.tail .head) (holds_row (List.Mem.head _)) (by rw [cells_length fI_len]; try simp) (one_cells fI_one _) cells_append (by omega) (by omega)) rfl rfl (kt2p rfl (fun A47 c47 h47 => ?_))
      refine wl_v (ov_assign rfl) rfl rfl rfl ?_
      refine wl_nil ?_
      refine ce_block ?_
      refine ce_then ?_
      refine cw_region ?_
      refine wl_v (ov_move rfl) rfl rfl rfl ?_
      refine wl_v (ov_add (r := (((q + 1) + 1 : Nat) : Int)) rfl rfl rfl (by omega)) rfl rfl rfl ?_
      refine wl_v (ov_assign rfl) rfl rfl rfl ?_
      refine wl_nil ?_
      exact fun ac_ w_ hs_ => hR0 (q + 1) A47 c47 ⟨by omega, h47⟩ (by omega) ac_ w_ (hs_.weaken (.cons rfl (.cons rfl (.cons rfl (.cons rfl (.nil))))) (.consE (show row 3 1 A47 (q + 1) (c47) (cells fI (((List.range q).map (fun i => slackAt (fall xs) (i + 1))) ++ ([slackTo (fall xs) (q + 1) j]))) = row 3 1 A47 ((q + 1)) (c47) (cells fI ((List.range (q + 1)).map (fun i => slackAt (fall xs) (i + 1)))) by rw [map_range_succ, show j = (fall xs).length from by omega] <;> rfl) (.head) (.cons (.tail .head) (.nil))))
  ·
    refine wl_nil ?_
    refine ce_then ?_
    refine cw_false rfl ?_
    refine cw_exit ?_
    refine ce_then_exit ?_
    refine ce_then_exit ?_
    refine ce_hit ?_
    refine ce_then ?_
    refine cw_seq ?_
    refine cw_region ?_
    refine wl_v (ov_move rfl) rfl rfl rfl ?_
    refine wl_v (ov_assign rfl) rfl rfl rfl ?_
    refine wl_nil ?_
    refine ce_then ?_
    refine cw_ret ?_
    refine ce_results (v := .slice A2 (q) (c2)) (res1 rfl (rv_t rfl)) (fun w' hw => ?_)
    exact ⟨A2, c2, (by omega), (by rw [show xs.length = q from by omega]), ((.consE (show row 3 1 A2 (q) (c2) (cells fI ((List.range q).map (fun i => slackAt (fall xs) (i + 1)))) = row 3 1 A2 (xs.length) (c2) (cells fI (slacksV xs)) by rw [slacksV_yes hs, show xs.length = q from by omega]) (.head) (.nil) : Keep _ _).ss hw).to_new⟩
set_option maxRecDepth 100000 in
theorem first1_c (w : World) (m : Int)  : Calls Try.prog 121 #[.int .i64 (m)] w (Ret fun rv w' => rv = .bool (decide (m < 0)) ∧ New w w' []) := by
  refine fn_enter (args := [.int .i64 (m)]) Try.func121 rfl Try.ntmps121 rfl (SS.start w) ?_
  refine cw_seq ?_
  refine cw_region ?_
  refine wl_v (ov_assign rfl) rfl rfl rfl ?_
  refine wl_nil ?_
  refine ce_then ?_
  refine cw_seq ?_
  refine cw_region ?_
  refine wl_v (ov_move rfl) rfl rfl rfl ?_
  refine wl_if (ov_lss rfl rfl) rfl rfl rfl (fun c4 => ?_) (fun c4 => ?_)
  ·
    refine wl_v (ov_assign rfl) rfl rfl rfl ?_
    refine wl_nil ?_
    refine ce_then ?_
    refine cw_ret ?_
    refine ce_results (v := .bool true) (res1 rfl (rv_t rfl)) (fun w' hw => ?_)
    exact ⟨(by simp [c4]), (Keep.nil.ss hw).to_new⟩
  ·
    refine wl_v (ov_assign rfl) rfl rfl rfl ?_
    refine wl_nil ?_
    refine ce_then ?_
    refine cw_ret ?_
    refine ce_results (v := .bool false) (res1 rfl (rv_t rfl)) (fun w' hw => ?_)
    exact ⟨(by simp [c4]), (Keep.nil.ss hw).to_new⟩
set_option maxRecDepth 100000 in
theorem FirstFailingI_c (w : World) (A : Option Addr) (n : Nat) (c : Nat) (xs : List (Int)) (hA : At w A (cells fI xs)) (eA : xs.length = n) (lA : n ≤ c) (hs : xs.length ≤ 4000000) : Calls Try.prog 80 #[.slice A (n) (c)] w (Ret fun rv w' => rv = .int .i64 (idxF (fun x => decide (x < 0)) (slacksV xs) + 1) ∧ New w w' []) := by
  have oA := hA.atB
  subst eA
  have hl := slacksV_len xs
  refine fn_enter (args := [.slice A (xs.length) (c)]) Try.func80 rfl Try.ntmps80 rfl (SS.start w) ?_
  refine cw_seq ?_
  refine cw_region ?_
  refine wl_v (ov_assign rfl) rfl rfl rfl ?_
  refine wl_nil ?_
  refine ce_then ?_
  refine cw_seq ?_
  refine cw_region ?_
  refine wl_v (ov_move rfl) rfl rfl rfl ?_
  refine wl_r (or_call (fv := []) (vs := [.slice A (xs.length) (c)]) (cs := []) en120 rfl rfl (call_x2 (fun w hw => SlacksOfI_c w A xs.length c xs ((holds_old oA) w hw) rfl lA (by first | assumption | omega | (simp; omega))))) rfl rfl (kt2p rfl (fun A2_4 c2_4 h_4 => ?_))
  refine wl_r (or_call (fv := []) (vs := [.slice A2_4 ((slacksV xs).length) (c2_4), .func (.func 121) #[] #[]]) (cs := []) en100 rfl rfl (call_v (fun w hw => indexFunc_c w A2_4 ((slacksV xs).length) c2_4 (slacksV xs) 121 ([]) (fun x => decide (x < 0)) ((holds_row (List.Mem.head _)) w hw) rfl h_4 (by first | assumption | omega | (simp; omega)) en121 (fun x hx w' hb => first1_c w' x)))) rfl rfl (kt0 rfl ?_)
  refine wl_v (ov_add (r := (idxF (fun x => decide (x < 0)) (slacksV xs)) + 1) rfl rfl rfl (by have := idxF_bd (p := fun x => decide (x < 0)) (xs := slacksV xs); omega)) rfl rfl rfl ?_
  refine wl_v (ov_assign rfl) rfl rfl rfl ?_
  refine wl_nil ?_
  refine ce_then ?_
  refine cw_ret ?_
  refine ce_results (v := .int .i64 ((idxF (fun x => decide (x < 0)) (slacksV xs)) + 1)) (res1 rfl (rv_t rfl)) (fun w' hw => ?_)
  exact ⟨rfl, (Keep.nil.ss hw).to_new⟩
set_option maxRecDepth 100000 in
theorem least_c (w : World) (A : Option Addr) (n : Nat) (c : Nat) (xs : List (Int)) (hA : At w A (cells fI xs)) (eA : xs.length = n) (lA : n ≤ c) (hs : xs.length ≤ 1000) : Calls Try.prog 117 #[.slice A (n) (c)] w (Ret fun rv w' => rv = .int .i64 (leastTo xs n) ∧ New w w' []) := by
  have oA := hA.atB
  subst eA
  refine fn_enter (args := [.slice A (xs.length) (c)]) Try.func117 rfl Try.ntmps117 rfl (SS.start w) ?_
  refine cw_seq ?_
  refine cw_region ?_
  refine wl_v (ov_assign rfl) rfl rfl rfl ?_
  refine wl_nil ?_
  refine ce_then ?_
  refine cw_seq ?_
  refine cw_region ?_
  refine wl_v (ov_assign rfl) rfl rfl rfl ?_
  refine wl_nil ?_
  refine ce_then ?_
  refine cw_seq ?_
  refine cw_seq ?_
  refine cw_region ?_
  refine wl_v (ov_assign rfl) rfl rfl rfl ?_
  refine wl_nil ?_
  refine ce_then ?_
  refine cw_block ?_
  refine cw_loop1 (fun (k : Nat) => [(0, .slice A (xs.length) (c)), (2, .int .i64 (0)), (3, .int .i64 (leastTo xs k)), (4, .int .i64 (((k : Nat) : Int)))]) (fun (k : Nat) => []) (fun (k : Nat) => k ≤ xs.length) (fun (k : Nat) => xs.length - k) 0 (by omega) (.cons rfl (.cons rfl (.cons (congrArg (fun z => some (Value.int .i64 z)) (show 0 = (leastTo xs 0) from rfl)) (.cons (congrArg (fun z => some (Value.int .i64 z)) (show 0 = ((0 : Nat) : Int) by first | omega | rfl | (simp; done))) (.nil))))) (.nil) ?_
  intro R0 k hk hR0
  refine cw_seq ?_
  refine cw_seq ?_
  refine cw_region ?_
  refine wl_v (ov_move rfl) rfl rfl rfl ?_
  refine wl_v (ov_move rfl) rfl rfl rfl ?_
  refine wl_v (ov_len (sliceI_spec sI27) rfl) rfl rfl rfl ?_
  refine wl_if (ov_lss rfl rfl) rfl rfl rfl (fun c8 => ?_) (fun c8 => ?_)
  ·
    refine wl_nil ?_
    refine ce_then ?_
    refine cw_true rfl ?_
    refine cw_skip ?_
    refine ce_then ?_
    refine cw_seq ?_
    refine cw_block ?_
    refine cw_region ?_
    refine wl_v (ov_move rfl) rfl rfl rfl ?_
    refine wl_v (ov_move rfl) rfl rfl rfl ?_
    refine wl_v (ov_move rfl) rfl rfl rfl ?_
    refine wl_v (ov_index (k := k) (c := c) sI27 tI3 rfl rfl (some_holds (q := k * 1) (holds_old oA) (by rw [cells_length fI_len]; have hlt : k < xs.length := (by first | omega | (simp; omega)); omega)) (show k < xs.length from (by first | omega | (simp; omega)))) rfl rfl rfl ?_
    refine wl_v (ov_load tI3 (holds_old oA) rfl (get_fI (show k < xs.length from (by first | omega | (simp; omega))))) rfl rfl rfl ?_
    refine wl_v (ov_min (r := min (leastTo xs k) (xs.getD k 0)) rfl rfl (by first | omega | (split <;> omega))) rfl rfl rfl ?_
    refine wl_v (ov_assign rfl) rfl rfl rfl ?_
    refine wl_nil ?_
    refine ce_block ?_
    refine ce_then ?_
    refine cw_region ?_
    refine wl_v (ov_move rfl) rfl rfl rfl ?_
    refine wl_v (ov_add (r := ((k + 1 : Nat) : Int)) rfl rfl rfl (by omega)) rfl rfl rfl ?_
    refine wl_v (ov_assign rfl) rfl rfl rfl ?_
    refine wl_nil ?_
    exact fun ac_ w_ hs_ => hR0 (k + 1) (by omega) (by omega) ac_ w_ (hs_.weaken (.cons rfl (.cons rfl (.cons (congrArg (fun z => some (Value.int .i64 z)) (show (min (leastTo xs k) (xs.getD k 0)) = (leastTo xs (k + 1)) from rfl)) (.cons rfl (.nil))))) (.nil))
  ·
    refine wl_nil ?_
    refine ce_then ?_
    refine cw_false rfl ?_
    refine cw_exit ?_
    refine ce_then_exit ?_
    refine ce_then_exit ?_
    refine ce_hit ?_
    refine ce_then ?_
    refine cw_seq ?_
    refine cw_region ?_
    refine wl_v (ov_move rfl) rfl rfl rfl ?_
    refine wl_v (ov_assign rfl) rfl rfl rfl ?_
    refine wl_nil ?_
    refine ce_then ?_
    refine cw_ret ?_
    refine ce_results (v := .int .i64 (leastTo xs k)) (res1 rfl (rv_t rfl)) (fun w' hw => ?_)
    exact ⟨(by rw [show k = xs.length from by omega]), (Keep.nil.ss hw).to_new⟩
set_option maxRecDepth 100000 in
theorem isGraphic_c (w : World) (A : Option Addr) (n : Nat) (c : Nat) (xs : List (Int)) (hA : At w A (cells fI xs)) (eA : xs.length = n) (lA : n ≤ c) (hs : Valid xs) : Calls Try.prog 77 #[.slice A (n) (c)] w (Ret fun rv w' => rv = .bool (decide (GraphicP xs)) ∧ New w w' []) := by
  have oA := hA.atB
  subst eA
  have hlen := hs.1
  have htn := total_nonneg hs
  have hll : (slacksV xs).length = xs.length := by rw [slacksV_yes hs]; simp
  refine fn_enter (args := [.slice A (xs.length) (c)]) Try.func77 rfl Try.ntmps77 rfl (SS.start w) ?_
  refine cw_seq ?_
  refine cw_region ?_
  refine wl_v (ov_assign rfl) rfl rfl rfl ?_
  refine wl_nil ?_
  refine ce_then ?_
  refine cw_seq ?_
  refine cw_region ?_
  refine wl_v (ov_move rfl) rfl rfl rfl ?_
  refine wl_r (or_call (fv := []) (vs := [.slice A (xs.length) (c)]) (cs := []) en116 rfl rfl (call_v (fun w hw => sum_c w A xs.length c xs ((holds_old oA) w hw) rfl lA hs.small))) rfl rfl (kt0 rfl ?_)
  refine wl_v (ov_rem (r := (total xs) % 2) rfl rfl (by omega) (by omega) rfl) rfl rfl rfl ?_
  refine wl_if (ov_eql rfl rfl) rfl rfl rfl (fun c6 => ?_) (fun c6 => ?_)
  ·
    refine wl_v (ov_move rfl) rfl rfl rfl ?_
    refine wl_go rfl rfl ?_
    refine wl_v (ov_move rfl) rfl rfl rfl ?_
    refine wl_go rfl rfl ?_
    refine wl_r (or_call (fv := []) (vs := [.slice A (xs.length) (c)]) (cs := []) en118 rfl rfl (call_x2 (fun w hw => slacksS_c w A xs.length c xs ((holds_old oA) w hw) rfl lA (by first | assumption | omega | (simp; omega))))) rfl rfl (kt2p rfl (fun A2_9 c2_9 h_9 => ?_))
    refine wl_go rfl rfl ?_
    refine wl_r (or_call (fv := []) (vs := [.slice A2_9 (xs.length) (c2_9)]) (cs := []) en117 rfl rfl (call_v (fun w hw => least_c w A2_9 xs.length c2_9 (slacksV xs) ((holds_row (List.Mem.head _)) w hw) hll h_9 (by first | assumption | omega | (simp; omega))))) rfl rfl (kt0 rfl ?_)
    refine wl_go rfl rfl ?_
    refine wl_if (ov_eql rfl rfl) rfl rfl rfl (fun c11 => ?_) (fun c11 => ?_)
    ·
      refine wl_v (ov_pick_t rfl rfl) rfl rfl rfl ?_
      refine wl_v (ov_assign rfl) rfl rfl rfl ?_
      refine wl_nil ?_
      refine ce_then ?_
      refine cw_ret ?_
      refine ce_results (v := .bool true) (res1 rfl (rv_t rfl)) (fun w' hw => ?_)
      exact ⟨(bt ⟨c6, by rw [← slacksV_yes2 hs]; exact leastTo_all.1 (by rw [hll]; exact c11)⟩), (Keep.nil.ss hw).to_new⟩
    ·
      refine wl_v (ov_pick_t rfl rfl) rfl rfl rfl ?_
      refine wl_v (ov_assign rfl) rfl rfl rfl ?_
      refine wl_nil ?_
      refine ce_then ?_
      refine cw_ret ?_
      refine ce_results (v := .bool false) (res1 rfl (rv_t rfl)) (fun w' hw => ?_)
      exact ⟨(bf (fun h => c11 (by rw [← hll]; exact leastTo_all.2 (by rw [slacksV_yes2 hs]; exact h.2)))), (Keep.nil.ss hw).to_new⟩
  ·
    refine wl_v (ov_move rfl) rfl rfl rfl ?_
    refine wl_not rfl rfl rfl rfl rfl rfl ?_
    refine wl_not rfl rfl rfl rfl rfl rfl ?_
    refine wl_not rfl rfl rfl rfl rfl rfl ?_
    refine wl_not rfl rfl rfl rfl rfl rfl ?_
    refine wl_v (ov_pick_f rfl rfl) rfl rfl rfl ?_
    refine wl_v (ov_assign rfl) rfl rfl rfl ?_
    refine wl_nil ?_
    refine ce_then ?_
    refine cw_ret ?_
    refine ce_results (v := .bool false) (res1 rfl (rv_t rfl)) (fun w' hw => ?_)
    exact ⟨(bf (fun h => c6 h.1)), (Keep.nil.ss hw).to_new⟩
set_option maxRecDepth 100000 in
theorem IsGraphicI_c (w : World) (A : Option Addr) (n : Nat) (c : Nat) (xs : List (Int)) (hA : At w A (cells fI xs)) (eA : xs.length = n) (lA : n ≤ c) (hs : xs.length ≤ 4000000) : Calls Try.prog 32 #[.slice A (n) (c)] w (Ret fun rv w' => rv = .bool (decide (Valid xs ∧ GraphicP xs)) ∧ New w w' []) := by
  have oA := hA.atB
  subst eA
  refine fn_enter (args := [.slice A (xs.length) (c)]) Try.func32 rfl Try.ntmps32 rfl (SS.start w) ?_
  refine cw_seq ?_
  refine cw_region ?_
  refine wl_v (ov_assign rfl) rfl rfl rfl ?_
  refine wl_nil ?_
  refine ce_then ?_
  refine cw_seq ?_
  refine cw_region ?_
  refine wl_v (ov_move rfl) rfl rfl rfl ?_
  refine wl_r (or_call (fv := []) (vs := [.slice A (xs.length) (c)]) (cs := []) en78 rfl rfl (call_v (fun w hw => validI_c w A xs.length c xs ((holds_old oA) w hw) rfl lA (by first | assumption | omega | (simp; omega))))) rfl rfl (kt_if rfl (fun c4 => ?_) (fun c4 => ?_))
  ·
    have hlen := c4.1
    have htn := total_nonneg c4
    refine wl_v (ov_move rfl) rfl rfl rfl ?_
    refine wl_go rfl rfl ?_
    refine wl_v (ov_move rfl) rfl rfl rfl ?_
    refine wl_go rfl rfl ?_
    refine wl_r (or_call (fv := []) (vs := [.slice A (xs.length) (c)]) (cs := []) en79 rfl rfl (call_v (fun w hw => sumI_c w A xs.length c xs ((holds_old oA) w hw) rfl lA c4.small))) rfl rfl (kt0 rfl ?_)
    refine wl_go rfl rfl ?_
    refine wl_v (ov_rem (r := (total xs) % 2) rfl rfl (by omega) (by omega) rfl) rfl rfl rfl ?_
    refine wl_go rfl rfl ?_
    refine wl_if (ov_eql rfl rfl) rfl rfl rfl (fun c9 => ?_) (fun c9 => ?_)
    ·
      refine wl_v (ov_pick_t rfl rfl) rfl rfl rfl ?_
      refine wl_v (ov_move rfl) rfl rfl rfl ?_
      refine wl_go rfl rfl ?_
      refine wl_v (ov_move rfl) rfl rfl rfl ?_
      refine wl_go rfl rfl ?_
      refine wl_r (or_call (fv := []) (vs := [.slice A (xs.length) (c)]) (cs := []) en80 rfl rfl (call_v (fun w hw => FirstFailingI_c w A xs.length c xs ((holds_old oA) w hw) rfl lA (by first | assumption | omega | (simp; omega))))) rfl rfl (kt0 rfl ?_)
      refine wl_go rfl rfl ?_
      refine wl_if (ov_eql rfl rfl) rfl rfl rfl (fun c14 => ?_) (fun c14 => ?_)
      ·
        refine wl_v (ov_pick_t rfl rfl) rfl rfl rfl ?_
        refine wl_v (ov_assign rfl) rfl rfl rfl ?_
        refine wl_nil ?_
        refine ce_then ?_
        refine cw_ret ?_
        refine ce_results (v := .bool true) (res1 rfl (rv_t rfl)) (fun w' hw => ?_)
        exact ⟨(bt ⟨c4, c9, by rw [← slacksV_yes2 c4]; exact idxF_zero.1 c14⟩), (Keep.nil.ss hw).to_new⟩
      ·
        refine wl_v (ov_pick_t rfl rfl) rfl rfl rfl ?_
        refine wl_v (ov_assign rfl) rfl rfl rfl ?_
        refine wl_nil ?_
        refine ce_then ?_
        refine cw_ret ?_
        refine ce_results (v := .bool false) (res1 rfl (rv_t rfl)) (fun w' hw => ?_)
        exact ⟨(bf (fun h => c14 (idxF_zero.2 (by rw [slacksV_yes2 c4]; exact h.2.2)))), (Keep.nil.ss hw).to_new⟩
    ·
      refine wl_v (ov_pick_t rfl rfl) rfl rfl rfl ?_
      refine wl_v (ov_move rfl) rfl rfl rfl ?_
      refine wl_not rfl rfl rfl rfl rfl rfl ?_
      refine wl_not rfl rfl rfl rfl rfl rfl ?_
      refine wl_not rfl rfl rfl rfl rfl rfl ?_
      refine wl_v (ov_pick_f rfl rfl) rfl rfl rfl ?_
      refine wl_v (ov_assign rfl) rfl rfl rfl ?_
      refine wl_nil ?_
      refine ce_then ?_
      refine cw_ret ?_
      refine ce_results (v := .bool false) (res1 rfl (rv_t rfl)) (fun w' hw => ?_)
      exact ⟨(bf (fun h => c9 h.2.1)), (Keep.nil.ss hw).to_new⟩
  ·
    refine wl_v (ov_move rfl) rfl rfl rfl ?_
    refine wl_not rfl rfl rfl rfl rfl rfl ?_
    refine wl_not rfl rfl rfl rfl rfl rfl ?_
    refine wl_not rfl rfl rfl rfl rfl rfl ?_
    refine wl_not rfl rfl rfl rfl rfl rfl ?_
    refine wl_v (ov_pick_f rfl rfl) rfl rfl rfl ?_
    refine wl_v (ov_move rfl) rfl rfl rfl ?_
    refine wl_not rfl rfl rfl rfl rfl rfl ?_
    refine wl_not rfl rfl rfl rfl rfl rfl ?_
    refine wl_not rfl rfl rfl rfl rfl rfl ?_
    refine wl_v (ov_pick_f rfl rfl) rfl rfl rfl ?_
    refine wl_v (ov_assign rfl) rfl rfl rfl ?_
    refine wl_nil ?_
    refine ce_then ?_
    refine cw_ret ?_
    refine ce_results (v := .bool false) (res1 rfl (rv_t rfl)) (fun w' hw => ?_)
    exact ⟨(bf (fun h => c4 h.1)), (Keep.nil.ss hw).to_new⟩
end Go.Proofs.Ythbfgkeoojghoaa.W7
