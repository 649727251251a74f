/- Walks of functions of the given program: each returns what its Lean function says and leaves the memory that was there as it was. Conditions: those of each theorem. -/
import Derived.Test.YtfjgfocjogfodaaSm
import Derived.Test.YtfjgfocjogfodaaProg
import Derived.Test.YtfjgfocjogfodaaPl
import Derived.Test.YtfjgfocjogfodaaPo
import Derived.Test.YtfjgfocjogfodaaPd
import Derived.Test.YtfjgfocjogfodaaPe
import Derived.Test.YtfjgfocjogfodaaPh
import Derived.Test.YtfjgfocjogfodaaPm
import Derived.Test.YtfjgfocjogfodaaPc
import Derived.Test.YtfjgfocjogfodaaPs
import Derived.Test.YtfjgfocjogfodaaPt
import Derived.Test.YtfjgfocjogfodaaPu
import Derived.Test.YtfjgfocjogfodaaPv
import Derived.Test.YtfjgfocjogfodaaPw
import Derived.Test.YtfjgfocjogfodaaT
import Derived.Test.YtfjgfocjogfodaaW13
import Derived.Test.YtfjgfocjogfodaaW17
import Derived.KernelRfl
namespace Go.Proofs.Ytfjgfocjogfodaa.W22
open Go.Sx Go.RowKit Go.Proofs.Ytfjgfocjogfodaa.T Go.Proofs.Ytfjgfocjogfodaa.W13 Go.Proofs.Ytfjgfocjogfodaa.W17
open Go.Plain
set_option linter.unusedVariables false
set_option maxRecDepth 100000 in
theorem which_c (w : World) (n : Nat) (Fc : FuncId) (cs : List Value) (p : Ed → Bool) (hn : n ≤ 7) (hen : Enters Try.prog Fc) (hf : ∀ x ∈ prs n, ∀ w', Below w.heap.size w w' → Calls Try.prog Fc ([] ++ [Value.int .i64 x.1, Value.int .i64 x.2] ++ cs).toArray w' (Ret fun v w'' => v = .bool (p x) ∧ New w' w'' [])) : Calls Try.prog 55 #[.int .i64 (((n : Nat) : Int)), .func (.func Fc) #[] cs.toArray] w (Ret fun rv w' => ∃ A2 c2, (True) ∧ rv = .agg #[.int .i64 (((n : Nat) : Int)), .slice A2 (((prs n).filter p).length) (((prs n).filter p).length)] ∧ New w w' [row 43 2 A2 (((prs n).filter p).length) (c2) (cells fE ((prs n).filter p))]) := by
  have hpl := prs_small n hn
  refine fn_enter (args := [.int .i64 (((n : Nat) : Int)), .func (.func Fc) #[] cs.toArray]) Try.func55 rfl Try.ntmps55 rfl (SS.start w) ?_
  refine cw_seq ?_
  refine cw_region ?_
  refine wl_r (or_alloc tI25 rfl) rfl rfl (kt1 rfl (fun g4 => ?_))
  refine wl_nil ?_
  refine ce_then ?_
  refine cw_seq ?_
  refine cw_region ?_
  refine wl_v (ov_assign rfl) rfl rfl rfl ?_
  refine wl_nil ?_
  refine ce_then ?_
  refine cw_seq ?_
  refine cw_seq ?_
  refine ct_none fE 43 2 ?_
  refine cw_region ?_
  refine wl_v (ov_move rfl) rfl rfl rfl ?_
  refine wl_r (or_call (fv := []) (vs := [.int .i64 (((n : Nat) : Int))]) (cs := []) en66 rfl rfl (call_x2 (fun w hw => pairsI_c w n (by omega)))) rfl rfl (kt2p rfl (fun A2_9 c2_9 h_9 => ?_))
  refine wl_v (ov_len (sliceI_spec sI23) rfl) rfl rfl rfl ?_
  refine wl_v (ov_move rfl) rfl rfl rfl ?_
  refine wl_nil ?_
  refine ce_then ?_
  refine cw_block ?_
  refine cw_loop3 (fun (k : Nat) (A3 : Option Addr) (c3 : Nat) => [(0, .int .i64 (((n : Nat) : Int))), (1, .func (.func Fc) #[] cs.toArray), (4, elp (some ⟨g4, 0, none⟩) (0)), (9, .slice A2_9 ((prs n).length) (c2_9)), (10, .int .i64 ((((prs n).length : Nat) : Int))), (5, .slice A3 ((((prs n).take k).filter p).length) (c3)), (11, .int .i64 (((k : Nat) : Int)))]) (fun (k : Nat) (A3 : Option Addr) (c3 : Nat) => [row 43 2 A2_9 ((prs n).length) (c2_9) (cells fE (prs n)), row 43 2 A3 ((((prs n).take k).filter p).length) (c3) (cells fE (((prs n).take k).filter p)), blk g4 [.int .i64 (0), .slice none (0) (0)] 25]) (fun (k : Nat) (A3 : Option Addr) (c3 : Nat) => k ≤ (prs n).length ∧ (((prs n).take k).filter p).length ≤ c3) (fun (k : Nat) (A3 : Option Addr) (c3 : Nat) => (prs n).length - k) 0 none 0 ⟨by omega, Nat.le_refl _⟩ (.cons rfl (.cons rfl (.cons rfl (.cons rfl (.cons rfl (.cons (congrArg (fun z => some (Value.slice none z 0)) (show 0 = ((((prs n).take 0).filter p).length) from rfl)) (.cons (congrArg (fun z => some (Value.int .i64 z)) (show 0 = ((0 : Nat) : Int) by first | omega | rfl | (simp; done))) (.nil)))))))) (.cons (.head) (.consE (show row 43 2 none (0) (0) (cells fE ([])) = row 43 2 none ((((prs n).take 0).filter p).length) (0) (cells fE (((prs n).take 0).filter p)) by rfl) (.head) (.cons (.head) (.nil)))) ?_
  intro R0 k A3 c3 hk hR0
  obtain ⟨hk1, hk2⟩ := hk
  have hfl : (((prs n).take k).filter p).length ≤ k := Nat.le_trans (List.length_filter_le _ _) (by rw [List.length_take]; omega)
  refine cw_seq ?_
  refine cw_region ?_
  refine wl_if (ov_lss rfl rfl) rfl rfl rfl (fun c12 => ?_) (fun c12 => ?_)
  ·
    refine wl_nil ?_
    refine ce_then ?_
    refine cw_seq ?_
    refine cw_true rfl ?_
    refine cw_skip ?_
    refine ce_then ?_
    refine cw_seq ?_
    refine cw_block ?_
    refine cw_seq ?_
    refine cw_region ?_
    refine wl_v (ov_index (k := k) (c := c2_9) sI23 tI43 rfl rfl (some_holds (q := k * 2) (holds_row (List.Mem.head _)) (by rw [cells_length fE_len]; have hlt : k < (prs n).length := (by omega); omega)) (show k < (prs n).length from (by omega))) rfl rfl rfl ?_
    refine wl_v (ov_loadAgg (vs := [.int .i64 (((prs n).getD k (0, 0)).1), .int .i64 (((prs n).getD k (0, 0)).2)]) tI43 (holds_row (List.Mem.head _)) rfl (some_holds (q := k * 2) (holds_row (List.Mem.head _)) (by rw [cells_length fE_len]; have hlt : k < (prs n).length := (by omega); omega)) (cells_elem fE_len (0, 0) (show k < (prs n).length from (by omega))) rfl) rfl rfl rfl ?_
    refine wl_r (or_alloc tI43 rfl) rfl rfl (kt1 rfl (fun g7 => ?_))
    refine wl_r0 (or_store_blk (vs := [.int .i64 (((prs n).getD k (0, 0)).1), .int .i64 (((prs n).getD k (0, 0)).2)]) (cs' := [.int .i64 (((prs n).getD k (0, 0)).1), .int .i64 (((prs n).getD k (0, 0)).2)]) (.head) tI43 rfl rfl rfl rfl (Nat.le_of_ble_eq_true rfl) rfl) rfl rfl (kn0 ?_)
    refine wl_nil ?_
    refine ce_then ?_
    refine cw_seq ?_
    refine cw_region ?_
    refine wl_v (ov_move rfl) rfl rfl rfl ?_
    refine wl_v (ov_fieldAddr fI43_0 some_lit rfl) rfl rfl rfl ?_
    refine wl_v (ov_load tI3 (holds_blk (List.Mem.head _)) rfl rfl) rfl rfl rfl ?_
    refine wl_v (ov_fieldAddr fI43_1 some_lit rfl) rfl rfl rfl ?_
    refine wl_v (ov_load tI3 (holds_blk (List.Mem.head _)) rfl rfl) rfl rfl rfl ?_
    refine wl_r (or_call (fv := []) (vs := [.int .i64 (((prs n).getD k (0, 0)).1), .int .i64 (((prs n).getD k (0, 0)).2)]) (cs := cs) hen rfl rfl (call_v (fun w hw => hf _ (getD_mem (0, 0) (by omega)) w hw.below))) rfl rfl (kt_ifb rfl (fun c20 => ?_) (fun c20 => ?_))
    ·
      refine wl_nil ?_
      refine ce_then ?_
      refine cw_true rfl ?_
      refine cw_region ?_
      refine wl_v (ov_move rfl) rfl rfl rfl ?_
      refine wl_v (ov_loadAgg (vs := [.int .i64 (((prs n).getD k (0, 0)).1), .int .i64 (((prs n).getD k (0, 0)).2)]) tI43 (holds_blk (List.Mem.head _)) rfl some_lit rfl rfl) rfl rfl rfl ?_
      refine wl_r (or_buildSlice (e := 43) (size := 2) (is := [0]) (vs := [.agg #[.int .i64 (((prs n).getD k (0, 0)).1), .int .i64 (((prs n).getD k (0, 0)).2)]]) (cs := cells fE ([(((prs n).getD k (0, 0)).1, ((prs n).getD k (0, 0)).2)])) rfl rfl rfl (by decide) (fun _ => by kernel_rfl)) rfl rfl (kt1 rfl (fun g23 => ?_))
      refine wl_r (or_append (c2 := 1) sI23 tI43 rfl (by decide) rfl rfl (.tail (.tail (.tail .head))) (holds_row (List.Mem.head _)) (by rw [cells_length fE_len]; try simp) (one_cells fE_one _) cells_append (by omega) (by omega)) rfl rfl (kt2p rfl (fun A24 c24 h24 => ?_))
      refine wl_v (ov_assign rfl) rfl rfl rfl ?_
      refine wl_nil ?_
      refine ce_block ?_
      refine ce_then ?_
      refine cw_region ?_
      refine wl_v (ov_add (r := ((k + 1 : Nat) : Int)) rfl rfl rfl (by omega)) rfl rfl rfl ?_
      refine wl_v (ov_move rfl) rfl rfl rfl ?_
      refine wl_nil ?_
      exact fun ac_ w_ hs_ => hR0 (k + 1) A24 c24 ⟨by omega, by rw [filt_t (by omega) c20, List.length_append]; exact h24⟩ (by omega) ac_ w_ (hs_.weaken (.cons rfl (.cons rfl (.cons rfl (.cons rfl (.cons rfl (.cons (congrArg (fun z => some (Value.slice A24 z c24)) (show (((((prs n).take k).filter p).length) + 1) = ((((prs n).take (k + 1)).filter p).length) from (by rw [filt_t (by omega) c20, List.length_append]; rfl))) (.cons rfl (.nil)))))))) (.cons (.tail (.tail (.tail .head))) (.consE (show row 43 2 A24 (((((prs n).take k).filter p).length) + 1) (c24) (cells fE ((((prs n).take k).filter p) ++ ([(((prs n).getD k (0, 0)).1, ((prs n).getD k (0, 0)).2)]))) = row 43 2 A24 ((((prs n).take (k + 1)).filter p).length) (c24) (cells fE (((prs n).take (k + 1)).filter p)) by rw [filt_t (by omega) c20, List.length_append]; rfl) (.head) (.cons (.tail (.tail .head)) (.nil)))))
    ·
      refine wl_nil ?_
      refine ce_then ?_
      refine cw_false rfl ?_
      refine cw_skip ?_
      refine ce_block ?_
      refine ce_then ?_
      refine cw_region ?_
      refine wl_v (ov_add (r := ((k + 1 : Nat) : Int)) rfl rfl rfl (by omega)) rfl rfl rfl ?_
      refine wl_v (ov_move rfl) rfl rfl rfl ?_
      refine wl_nil ?_
      exact fun ac_ w_ hs_ => hR0 (k + 1) A3 c3 ⟨by omega, by rw [filt_f (by omega) c20]; exact hk2⟩ (by omega) ac_ w_ (hs_.weaken (.cons rfl (.cons rfl (.cons rfl (.cons rfl (.cons rfl (.cons (congrArg (fun z => some (Value.slice A3 z c3)) (show ((((prs n).take k).filter p).length) = ((((prs n).take (k + 1)).filter p).length) from (by rw [filt_f (by omega) c20]))) (.cons rfl (.nil)))))))) (.cons (.tail .head) (.consE (show row 43 2 A3 ((((prs n).take k).filter p).length) (c3) (cells fE (((prs n).take k).filter p)) = row 43 2 A3 ((((prs n).take (k + 1)).filter p).length) (c3) (cells fE (((prs n).take (k + 1)).filter p)) by rw [filt_f (by omega) c20]) (.tail .head) (.cons (.tail .head) (.nil)))))
  ·
    refine wl_nil ?_
    refine ce_then ?_
    refine cw_seq ?_
    refine cw_false rfl ?_
    refine cw_exit ?_
    refine ce_then_exit ?_
    refine ce_then_exit ?_
    refine ce_hit ?_
    refine ce_then ?_
    refine cw_seq ?_
    refine cw_region ?_
    refine wl_v (ov_move rfl) rfl rfl rfl ?_
    refine wl_v (ov_move rfl) rfl rfl rfl ?_
    refine wl_r (or_call (fv := []) (vs := [.slice A3 ((((prs n).take k).filter p).length) (c3)]) (cs := []) en109 rfl rfl (call_v (fun w hw => clipE_c w A3 ((((prs n).take k).filter p).length) c3 (((prs n).take k).filter p) ((holds_row (List.Mem.tail _ (List.Mem.head _))) w hw) rfl hk2))) rfl rfl (kt0 rfl ?_)
    refine wl_v (ov_build (is := [0, 1]) (vs := [.int .i64 (((n : Nat) : Int)), .slice A3 (((((prs n).take k).filter p).length)) (((((prs n).take k).filter p).length))]) (v := .agg #[.int .i64 (((n : Nat) : Int)), .slice A3 (((((prs n).take k).filter p).length)) (((((prs n).take k).filter p).length))]) rfl rfl (fun _ => by kernel_rfl)) rfl rfl rfl ?_
    refine wl_r0 (or_store_blk (vs := [.int .i64 (((n : Nat) : Int)), .slice A3 (((((prs n).take k).filter p).length)) (((((prs n).take k).filter p).length))]) (cs' := [.int .i64 (((n : Nat) : Int)), .slice A3 (((((prs n).take k).filter p).length)) (((((prs n).take k).filter p).length))]) (.tail (.tail .head)) tI25 rfl rfl rfl rfl (Nat.le_of_ble_eq_true rfl) rfl) rfl rfl (kn0 ?_)
    refine wl_nil ?_
    refine ce_then ?_
    refine cw_ret ?_
    refine ce_results (v := .agg #[.int .i64 (((n : Nat) : Int)), .slice A3 (((((prs n).take k).filter p).length)) (((((prs n).take k).filter p).length))]) (res1 rfl (rv_c rfl tI25 rfl (List.Mem.head _))) (fun w' hw => ?_)
    exact ⟨A3, c3, trivial, (by rw [List.take_of_length_le (show (prs n).length ≤ k by omega)]), ((.consE (show row 43 2 A3 ((((prs n).take k).filter p).length) (c3) (cells fE (((prs n).take k).filter p)) = row 43 2 A3 (((prs n).filter p).length) (c3) (cells fE ((prs n).filter p)) by rw [List.take_of_length_le (show (prs n).length ≤ k by omega)]) (.tail (.tail .head)) (.nil) : Keep _ _).ss hw).to_new⟩
end Go.Proofs.Ytfjgfocjogfodaa.W22
