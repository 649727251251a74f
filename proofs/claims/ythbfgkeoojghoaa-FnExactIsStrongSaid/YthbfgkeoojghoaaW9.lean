/- Walks of functions of the given program: each returns what its Lean function says and leaves the memory that was there as it was. Conditions: those of each theorem. -/
import Derived.Test.YthbfgkeoojghoaaSm
import Derived.Test.YthbfgkeoojghoaaProg
import Derived.Test.YthbfgkeoojghoaaPl
import Derived.Test.YthbfgkeoojghoaaPo
import Derived.Test.YthbfgkeoojghoaaPd
import Derived.Test.YthbfgkeoojghoaaPe
import Derived.Test.YthbfgkeoojghoaaPh
import Derived.Test.YthbfgkeoojghoaaPm
import Derived.Test.YthbfgkeoojghoaaPc
import Derived.Test.YthbfgkeoojghoaaPs
import Derived.Test.YthbfgkeoojghoaaPt
import Derived.Test.YthbfgkeoojghoaaPu
import Derived.Test.YthbfgkeoojghoaaPv
import Derived.Test.YthbfgkeoojghoaaPw
import Derived.Test.YthbfgkeoojghoaaSo
import Derived.Test.YthbfgkeoojghoaaSh
import Derived.Test.YthbfgkeoojghoaaT
import Derived.Test.YthbfgkeoojghoaaW6
import Derived.Test.YthbfgkeoojghoaaW7
import Derived.KernelRfl
namespace Go.Proofs.Ythbfgkeoojghoaa.W9
open Go.Sx Go.RowKit Go.Proofs.Ythbfgkeoojghoaa.T Go.Proofs.Ythbfgkeoojghoaa.W6 Go.Proofs.Ythbfgkeoojghoaa.W7
open Go.Plain
set_option linter.unusedVariables false
set_option maxRecDepth 100000 in
theorem over_c (w : World) (A : Option Addr) (n : Nat) (c : Nat) (xs : List (Int)) (hA : At w A (cells fI xs)) (eA : xs.length = n) (lA : n ≤ c) (hs : Small xs) : Calls Try.prog 89 #[.slice A (n) (c)] w (Ret fun rv w' => ∃ A2 c2, (n ≤ c2) ∧ rv = .slice A2 (n) (c2) ∧ New w w' [row 3 1 A2 (n) (c2) (cells fI (scoreL xs))]) := by
  have oA := hA.atB
  subst eA
  have hlen := hs.1
  have hfl := fall_length xs
  have hsr := small_rev hs
  refine fn_enter (args := [.slice A (xs.length) (c)]) Try.func89 rfl Try.ntmps89 rfl (SS.start w) ?_
  refine cw_seq ?_
  refine cw_region ?_
  refine wl_v (ov_assign rfl) rfl rfl rfl ?_
  refine wl_nil ?_
  refine ce_then ?_
  refine cw_seq ?_
  refine cw_region ?_
  refine wl_v (ov_move rfl) rfl rfl rfl ?_
  refine wl_r (or_call (fv := []) (vs := [.slice A (xs.length) (c)]) (cs := []) en81 rfl rfl (call_x2 (fun w hw => fallingI_c w A xs.length c xs ((holds_old oA) w hw) rfl lA (by first | assumption | omega | (simp; omega))))) rfl rfl (kt2p rfl (fun A2_7 c2_7 h_7 => ?_))
  refine wl_v (ov_assign rfl) rfl rfl rfl ?_
  refine wl_nil ?_
  refine ce_then ?_
  refine cw_seq ?_
  refine cw_region ?_
  refine wl_v (ov_move rfl) rfl rfl rfl ?_
  refine wl_r (or_call (fv := []) (vs := [.slice A2_7 (xs.length) (xs.length)]) (cs := []) en123 rfl rfl (call_m (.head) (fun w hw => reverse_c w _ _ _ A2_7 xs.length c2_7 xs.length (fall xs) (fall_length _) (Nat.le_refl _) (by omega) hw))) rfl rfl (kt0 rfl ?_)
  refine wl_nil ?_
  refine ce_then ?_
  refine cw_seq ?_
  refine cw_region ?_
  refine wl_v (ov_move rfl) rfl rfl rfl ?_
  refine wl_v (ov_len (sliceI_spec sI27) rfl) rfl rfl rfl ?_
  refine wl_r (or_makeSlice (m := xs.length) sI27 tI3 rfl rfl (made_fI _) (by omega) (show xs.length ≤ maxLen by simp only [maxLen]; omega)) rfl rfl (kt1 rfl (fun g12 => ?_))
  refine wl_v (ov_assign rfl) rfl rfl rfl ?_
  refine wl_nil ?_
  refine ce_then ?_
  refine cw_seq ?_
  refine cw_seq ?_
  refine cw_region ?_
  refine wl_v (ov_move rfl) rfl rfl rfl ?_
  refine wl_v (ov_len (sliceI_spec sI27) rfl) rfl rfl rfl ?_
  refine wl_v (ov_move rfl) rfl rfl rfl ?_
  refine wl_nil ?_
  refine ce_then ?_
  refine cw_block ?_
  refine cw_loop1 (fun (k : Nat) => [(2, .slice none (0) (0)), (3, .slice A2_7 (xs.length) (xs.length)), (4, .slice (some ⟨g12, 0, none⟩) (xs.length) (xs.length)), (14, .int .i64 (((xs.length : Nat) : Int))), (15, .int .i64 (((k : Nat) : Int)))]) (fun (k : Nat) => [row 3 1 (some ⟨g12, 0, none⟩) (xs.length) (xs.length) (cells fI ((List.range k).map (overAt xs) ++ List.replicate (xs.length - k) 0)), row 3 1 A2_7 (xs.length) (c2_7) (cells fI ((fall xs).reverse))]) (fun (k : Nat) => k ≤ xs.length) (fun (k : Nat) => xs.length - k) 0 (by omega) (.cons rfl (.cons rfl (.cons rfl (.cons rfl (.cons (congrArg (fun z => some (Value.int .i64 z)) (show 0 = ((0 : Nat) : Int) by first | omega | rfl | (simp; done))) (.nil)))))) (.consE (show row 3 1 (some ⟨g12, 0, none⟩) (xs.length) (xs.length) (cells fI (List.replicate xs.length 0)) = row 3 1 (some ⟨g12, 0, none⟩) (xs.length) (xs.length) (cells fI ((List.range 0).map (overAt xs) ++ List.replicate (xs.length - 0) 0)) by simp) (.head) (.cons (.head) (.nil))) ?_
  intro R0 k hk hR0
  have hpb := prod_bd2 (k := k + 1) (by omega)
  have hpn := prod_nn (k + 1)
  have htl : ((fall xs).reverse.take (k + 1)).length ≤ 100 := by rw [List.length_take, List.length_reverse]; omega
  have h1 := total_len (hsr.take (k + 1))
  refine cw_seq ?_
  refine cw_region ?_
  refine wl_if (ov_lss rfl rfl) rfl rfl rfl (fun c16 => ?_) (fun c16 => ?_)
  ·
    refine wl_nil ?_
    refine ce_then ?_
    refine cw_seq ?_
    refine cw_true rfl ?_
    refine cw_skip ?_
    refine ce_then ?_
    refine cw_seq ?_
    refine cw_block ?_
    refine cw_seq ?_
    refine cw_region ?_
    refine wl_v (ov_move rfl) rfl rfl rfl ?_
    refine wl_v (ov_assign rfl) rfl rfl rfl ?_
    refine wl_nil ?_
    refine ce_then ?_
    refine cw_region ?_
    refine wl_v (ov_move rfl) rfl rfl rfl ?_
    refine wl_v (ov_move rfl) rfl rfl rfl ?_
    refine wl_v (ov_move rfl) rfl rfl rfl ?_
    refine wl_v (ov_move rfl) rfl rfl rfl ?_
    refine wl_v (ov_add (r := ((k + 1 : Nat) : Int)) rfl rfl rfl (by omega)) rfl rfl rfl ?_
    refine wl_v (ov_slice_h (h := k + 1) sI27 tI3 rfl rfl (by omega)) rfl rfl rfl ?_
    refine wl_r (or_call (fv := []) (vs := [.slice A2_7 (k + 1) (xs.length)]) (cs := []) en79 rfl rfl (call_v (fun w hw => sumI_c w A2_7 (k + 1) xs.length (((fall xs).reverse).take (k + 1)) ((holds_takeC (k := (k + 1)) fI_len (holds_row (List.Mem.tail _ (List.Mem.head _)))) w hw) (by rw [List.length_take, List.length_reverse, hfl]; omega) (by omega) (hsr.take _)))) rfl rfl (kt0 rfl ?_)
    refine wl_v (ov_move rfl) rfl rfl rfl ?_
    refine wl_v (ov_add (r := ((k + 1 : Nat) : Int)) rfl rfl rfl (by omega)) rfl rfl rfl ?_
    refine wl_v (ov_move rfl) rfl rfl rfl ?_
    refine wl_v (ov_mul (r := ((k + 1 : Nat) : Int) * (((k + 1 : Nat) : Int) - 1)) rfl rfl (by rw [show ((k + 1 : Nat) : Int) - 1 = (k : Int) from by omega]) (by omega)) rfl rfl rfl ?_
    refine wl_v (ov_quo (r := (((k + 1 : Nat) : Int) * (((k + 1 : Nat) : Int) - 1)) / 2) rfl rfl (by omega) (by omega) rfl) rfl rfl rfl ?_
    refine wl_v (ov_sub (r := (total (((fall xs).reverse).take (k + 1))) - ((((k + 1 : Nat) : Int) * (((k + 1 : Nat) : Int) - 1)) / 2)) rfl rfl rfl (by omega)) rfl rfl rfl ?_
    refine wl_v (ov_index (k := k) (c := xs.length) sI27 tI3 rfl rfl (some_holds (q := k * 1) (holds_row (List.Mem.head _)) (by rw [cells_length fI_len]; have hlt : k < ((List.range k).map (overAt xs) ++ List.replicate (xs.length - k) 0).length := (by first | omega | (simp; omega)); omega)) (show k < xs.length from (by first | omega | (simp; omega)))) rfl rfl rfl ?_
    refine wl_r0 (or_store_row (vs := [.int .i64 ((total (((fall xs).reverse).take (k + 1))) - ((((k + 1 : Nat) : Int) * (((k + 1 : Nat) : Int) - 1)) / 2))]) (cs' := cells fI (((List.range k).map (overAt xs) ++ List.replicate (xs.length - k) 0).set k ((total (((fall xs).reverse).take (k + 1))) - ((((k + 1 : Nat) : Int) * (((k + 1 : Nat) : Int) - 1)) / 2)))) (.head) tI3 rfl rfl rfl rfl (by rw [cells_length fI_len]; have hlt := (show k < ((List.range k).map (overAt xs) ++ List.replicate (xs.length - k) 0).length from (by first | omega | (simp; omega))); simp only [List.length_cons, List.length_nil]; omega) (by simp) (cells_splice fI_len (show k < ((List.range k).map (overAt xs) ++ List.replicate (xs.length - k) 0).length from (by first | omega | (simp; omega))) ((total (((fall xs).reverse).take (k + 1))) - ((((k + 1 : Nat) : Int) * (((k + 1 : Nat) : Int) - 1)) / 2)))) rfl rfl (kn0 ?_)
    refine wl_nil ?_
    refine ce_block ?_
    refine ce_then ?_
    refine cw_region ?_
    refine wl_v (ov_add (r := ((k + 1 : Nat) : Int)) rfl rfl rfl (by omega)) rfl rfl rfl ?_
    refine wl_v (ov_move rfl) rfl rfl rfl ?_
    refine wl_nil ?_
    exact fun ac_ w_ hs_ => hR0 (k + 1) (by omega) (by omega) ac_ w_ (hs_.weaken (.cons rfl (.cons rfl (.cons rfl (.cons rfl (.cons rfl (.nil)))))) (.consE (show row 3 1 (some ⟨g12, 0, none⟩) (xs.length) (xs.length) (cells fI (((List.range k).map (overAt xs) ++ List.replicate (xs.length - k) 0).set k ((total (((fall xs).reverse).take (k + 1))) - ((((k + 1 : Nat) : Int) * (((k + 1 : Nat) : Int) - 1)) / 2)))) = row 3 1 (some ⟨g12, 0, none⟩) (xs.length) (xs.length) (cells fI ((List.range (k + 1)).map (overAt xs) ++ List.replicate (xs.length - (k + 1)) 0)) by rw [fall_rev]; exact congrArg (fun z => row 3 1 (some ⟨g12, 0, none⟩) (xs.length) (xs.length) (cells fI z)) (made_step (f := overAt xs) (by omega))) (.head) (.cons (.head) (.nil))))
  ·
    refine wl_nil ?_
    refine ce_then ?_
    refine cw_seq ?_
    refine cw_false rfl ?_
    refine cw_exit ?_
    refine ce_then_exit ?_
    refine ce_then_exit ?_
    refine ce_hit ?_
    refine ce_then ?_
    refine cw_seq ?_
    refine cw_region ?_
    refine wl_v (ov_move rfl) rfl rfl rfl ?_
    refine wl_v (ov_assign rfl) rfl rfl rfl ?_
    refine wl_nil ?_
    refine ce_then ?_
    refine cw_ret ?_
    refine ce_results (v := .slice (some ⟨g12, 0, none⟩) (xs.length) (xs.length)) (res1 rfl (rv_t rfl)) (fun w' hw => ?_)
    exact ⟨some ⟨g12, 0, none⟩, xs.length, (Nat.le_refl _), rfl, ((.consE (show row 3 1 (some ⟨g12, 0, none⟩) (xs.length) (xs.length) (cells fI ((List.range k).map (overAt xs) ++ List.replicate (xs.length - k) 0)) = row 3 1 (some ⟨g12, 0, none⟩) (xs.length) (xs.length) (cells fI (scoreL xs)) by rw [scoreL, show k = xs.length from by omega]; simp) (.head) (.nil) : Keep _ _).ss hw).to_new⟩
end Go.Proofs.Ythbfgkeoojghoaa.W9
