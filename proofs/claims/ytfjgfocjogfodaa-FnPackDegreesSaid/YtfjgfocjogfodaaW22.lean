/- Walks of functions of the given program: each returns what its Lean function says and leaves the memory that was there as it was. Conditions: those of each theorem. -/
import Derived.Test.YtfjgfocjogfodaaSm
import Derived.Test.YtfjgfocjogfodaaProg
import Derived.Test.YtfjgfocjogfodaaPl
import Derived.Test.YtfjgfocjogfodaaPo
import Derived.Test.YtfjgfocjogfodaaPd
import Derived.Test.YtfjgfocjogfodaaPe
import Derived.Test.YtfjgfocjogfodaaPh
import Derived.Test.YtfjgfocjogfodaaPm
import Derived.Test.YtfjgfocjogfodaaPc
import Derived.Test.YtfjgfocjogfodaaPs
import Derived.Test.YtfjgfocjogfodaaPt
import Derived.Test.YtfjgfocjogfodaaPu
import Derived.Test.YtfjgfocjogfodaaPv
import Derived.Test.YtfjgfocjogfodaaPw
import Derived.Test.YtfjgfocjogfodaaT
import Derived.Test.YtfjgfocjogfodaaW2
import Derived.Test.YtfjgfocjogfodaaW5
import Derived.Test.YtfjgfocjogfodaaW11
import Derived.Test.YtfjgfocjogfodaaW13
import Derived.Test.YtfjgfocjogfodaaW17
import Derived.Test.YtfjgfocjogfodaaW18
import Derived.Test.YtfjgfocjogfodaaW20
import Derived.KernelRfl
namespace Go.Proofs.Ytfjgfocjogfodaa.W22
open Go.Sx Go.RowKit Go.Proofs.Ytfjgfocjogfodaa.T Go.Proofs.Ytfjgfocjogfodaa.W2 Go.Proofs.Ytfjgfocjogfodaa.W5 Go.Proofs.Ytfjgfocjogfodaa.W11 Go.Proofs.Ytfjgfocjogfodaa.W13 Go.Proofs.Ytfjgfocjogfodaa.W17 Go.Proofs.Ytfjgfocjogfodaa.W18 Go.Proofs.Ytfjgfocjogfodaa.W20
open Go.Plain
set_option linter.unusedVariables false
set_option maxRecDepth 100000 in
theorem which_c (w : World) (n : Nat) (Fc : FuncId) (cs : List Value) (p : Ed → Bool) (hn : n ≤ 7) (hen : Enters Try.prog Fc) (hf : ∀ x ∈ prs n, ∀ w', Below w.heap.size w w' → Calls Try.prog Fc ([] ++ [Value.int .i64 x.1, Value.int .i64 x.2] ++ cs).toArray w' (Ret fun v w'' => v = .bool (p x) ∧ New w' w'' [])) : Calls Try.prog 55 #[.int .i64 (((n : Nat) : Int)), .func (.func Fc) #[] cs.toArray] w (Ret fun rv w' => ∃ A2 c2, (True) ∧ rv = .agg #[.int .i64 (((n : Nat) : Int)), .slice A2 (((prs n).filter p).length) (((prs n).filter p).length)] ∧ New w w' [row 43 2 A2 (((prs n).filter p).length) (c2) (cells fE ((prs n).filter p))]) := by
  have hpl := prs_small n hn
  refine fn_enter (args := [.int .i64 (((n : Nat) : Int)), .func (.func Fc) #[] cs.toArray]) Try.func55 rfl Try.ntmps55 rfl (SS.start w) ?_
  refine cw_seq ?_
  refine cw_region ?_
  refine wl_r (or_alloc tI25 rfl) rfl rfl (kt1 rfl (fun g4 => ?_))
  refine wl_nil ?_
  refine ce_then ?_
  refine cw_seq ?_
  refine cw_region ?_
  refine wl_v (ov_assign rfl) rfl rfl rfl ?_
  refine wl_nil ?_
  refine ce_then ?_
  refine cw_seq ?_
  refine cw_seq ?_
  refine ct_none fE 43 2 ?_
  refine cw_region ?_
  refine wl_v (ov_move rfl) rfl rfl rfl ?_
  refine wl_r (or_call (fv := []) (vs := [.int .i64 (((n : Nat) : Int))]) (cs := []) en66 rfl rfl (call_x2 (fun w hw => pairsI_c w n (by omega)))) rfl rfl (kt2p rfl (fun A2_9 c2_9 h_9 => ?_))
  refine wl_v (ov_len (sliceI_spec sI23) rfl) rfl rfl rfl ?_
  refine wl_v (ov_move rfl) rfl rfl rfl ?_
  refine wl_nil ?_
  refine ce_then ?_
  refine cw_block ?_
  refine cw_loop3 (fun (k : Nat) (A3 : Option Addr) (c3 : Nat) => [(0, .int .i64 (((n : Nat) : Int))), (1, .func (.func Fc) #[] cs.toArray), (4, elp (some ⟨g4, 0, none⟩) (0)), (9, .slice A2_9 ((prs n).length) (c2_9)), (10, .int .i64 ((((prs n).length : Nat) : Int))), (5, .slice A3 ((((prs n).take k).filter p).length) (c3)), (11, .int .i64 (((k : Nat) : Int)))]) (fun (k : Nat) (A3 : Option Addr) (c3 : Nat) => [row 43 2 A2_9 ((prs n).length) (c2_9) (cells fE (prs n)), row 43 2 A3 ((((prs n).take k).filter p).length) (c3) (cells fE (((prs n).take k).filter p)), blk g4 [.int .i64 (0), .slice none (0) (0)] 25]) (fun (k : Nat) (A3 : Option Addr) (c3 : Nat) => k ≤ (prs n).length ∧ (((prs n).take k).filter p).length ≤ c3) (fun (k : Nat) (A3 : Option Addr) (c3 : Nat) => (prs n).length - k) 0 none 0 ⟨by omega, Nat.le_refl _⟩ (.cons rfl (.cons rfl (.cons rfl (.cons rfl (.cons rfl (.cons (congrArg (fun z => some (Value.slice none z 0)) (show 0 = ((((prs n).take 0).filter p).length) from rfl)) (.cons (congrArg (fun z => some (Value.int .i64 z)) (show 0 = ((0 : Nat) : Int) by first | omega | rfl | (simp; done))) (.nil)))))))) (.cons (.head) (.consE (show row 43 2 none (0) (0) (cells fE ([])) = row 43 2 none ((((prs n).take 0).filter p).length) (0) (cells fE (((prs n).take 0).filter p)) by rfl) (.head) (.cons (.head) (.nil)))) ?_
  intro R0 k A3 c3 hk hR0
  obtain ⟨hk1, hk2⟩ := hk
  have hfl : (((prs n).take k).filter p).length ≤ k := Nat.le_trans (List.length_filter_le _ _) (by rw [List.length_take]; omega)
  refine cw_seq ?_
  refine cw_region ?_
  refine wl_if (ov_lss rfl rfl) rfl rfl rfl (fun c12 => ?_) (fun c12 => ?_)
  ·
    refine wl_nil ?_
    refine ce_then ?_
    refine cw_seq ?_
    refine cw_true rfl ?_
    refine cw_skip ?_
    refine ce_then ?_
    refine cw_seq ?_
    refine cw_block ?_
    refine cw_seq ?_
    refine cw_region ?_
    refine wl_v (ov_index (k := k) (c := c2_9) sI23 tI43 rfl rfl (some_holds (q := k * 2) (holds_row (List.Mem.head _)) (by rw [cells_length fE_len]; have hlt : k < (prs n).length := (by omega); omega)) (show k < (prs n).length from (by omega))) rfl rfl rfl ?_
    refine wl_v (ov_loadAgg (vs := [.int .i64 (((prs n).getD k (0, 0)).1), .int .i64 (((prs n).getD k (0, 0)).2)]) tI43 (holds_row (List.Mem.head _)) rfl (some_holds (q := k * 2) (holds_row (List.Mem.head _)) (by rw [cells_length fE_len]; have hlt : k < (prs n).length := (by omega); omega)) (cells_elem fE_len (0, 0) (show k < (prs n).length from (by omega))) rfl) rfl rfl rfl ?_
    refine wl_r (or_alloc tI43 rfl) rfl rfl (kt1 rfl (fun g7 => ?_))
    refine wl_r0 (or_store_blk (vs := [.int .i64 (((prs n).getD k (0, 0)).1), .int .i64 (((prs n).getD k (0, 0)).2)]) (cs' := [.int .i64 (((prs n).getD k (0, 0)).1), .int .i64 (((prs n).getD k (0, 0)).2)]) (.head) tI43 rfl rfl rfl rfl (Nat.le_of_ble_eq_true rfl) rfl) rfl rfl (kn0 ?_)
    refine wl_nil ?_
    refine ce_then ?_
    refine cw_seq ?_
    refine cw_region ?_
    refine wl_v (ov_move rfl) rfl rfl rfl ?_
    refine wl_v (ov_fieldAddr fI43_0 some_lit rfl) rfl rfl rfl ?_
    refine wl_v (ov_load tI3 (holds_blk (List.Mem.head _)) rfl rfl) rfl rfl rfl ?_
    refine wl_v (ov_fieldAddr fI43_1 some_lit rfl) rfl rfl rfl ?_
    refine wl_v (ov_load tI3 (holds_blk (List.Mem.head _)) rfl rfl) rfl rfl rfl ?_
    refine wl_r (or_call (fv := []) (vs := [.int .i64 (((prs n).getD k (0, 0)).1), .int .i64 (((prs n).getD k (0, 0)).2)]) (cs := cs) hen rfl rfl (call_v (fun w hw => hf _ (getD_mem (0, 0) (by omega)) w hw.below))) rfl rfl (kt_ifb rfl (fun c20 => ?_) (fun c20 => ?_))
    ·
      refine wl_nil ?_
      refine ce_then ?_
      refine cw_true rfl ?_
      refine cw_region ?_
      refine wl_v (ov_move rfl) rfl rfl rfl ?_
      refine wl_v (ov_loadAgg (vs := [.int .i64 (((prs n).getD k (0, 0)).1), .int .i64 (((prs n).getD k (0, 0)).2)]) tI43 (holds_blk (List.Mem.head _)) rfl some_lit rfl rfl) rfl rfl rfl ?_
      refine wl_r (or_buildSlice (e := 43) (size := 2) (is := [0]) (vs := [.agg #[.int .i64 (((prs n).getD k (0, 0)).1), .int .i64 (((prs n).getD k (0, 0)).2)]]) (cs := cells fE ([(((prs n).getD k (0, 0)).1, ((prs n).getD k (0, 0)).2)])) rfl rfl rfl (by decide) (fun _ => by kernel_rfl)) rfl rfl (kt1 rfl (fun g23 => ?_))
      refine wl_r (or_append (c2 := 1) sI23 tI43 rfl (by decide) rfl rfl (.tail (.tail (.tail .head))) (holds_row (List.Mem.head _)) (by rw [cells_length fE_len]; try simp) (one_cells fE_one _) cells_append (by omega) (by omega)) rfl rfl (kt2p rfl (fun A24 c24 h24 => ?_))
      refine wl_v (ov_assign rfl) rfl rfl rfl ?_
      refine wl_nil ?_
      refine ce_block ?_
      refine ce_then ?_
      refine cw_region ?_
      refine wl_v (ov_add (r := ((k + 1 : Nat) : Int)) rfl rfl rfl (by omega)) rfl rfl rfl ?_
      refine wl_v (ov_move rfl) rfl rfl rfl ?_
      refine wl_nil ?_
      exact fun ac_ w_ hs_ => hR0 (k + 1) A24 c24 ⟨by omega, by rw [filt_t (by omega) c20, List.length_append]; exact h24⟩ (by omega) ac_ w_ (hs_.weaken (.cons rfl (.cons rfl (.cons rfl (.cons rfl (.cons rfl (.cons (congrArg (fun z => some (Value.slice A24 z c24)) (show (((((prs n).take k).filter p).length) + 1) = ((((prs n).take (k + 1)).filter p).length) from (by rw [filt_t (by omega) c20, List.length_append]; rfl))) (.cons rfl (.nil)))))))) (.cons (.tail (.tail (.tail .head))) (.consE (show row 43 2 A24 (((((prs n).take k).filter p).length) + 1) (c24) (cells fE ((((prs n).take k).filter p) ++ ([(((prs n).getD k (0, 0)).1, ((prs n).getD k (0, 0)).2)]))) = row 43 2 A24 ((((prs n).take (k + 1)).filter p).length) (c24) (cells fE (((prs n).take (k + 1)).filter p)) by rw [filt_t (by omega) c20, List.length_append]; rfl) (.head) (.cons (.tail (.tail .head)) (.nil)))))
    ·
      refine wl_nil ?_
      refine ce_then ?_
      refine cw_false rfl ?_
      refine cw_skip ?_
      refine ce_block ?_
      refine ce_then ?_
      refine cw_region ?_
      refine wl_v (ov_add (r := ((k + 1 : Nat) : Int)) rfl rfl rfl (by omega)) rfl rfl rfl ?_
      refine wl_v (ov_move rfl) rfl rfl rfl ?_
      refine wl_nil ?_
      exact fun ac_ w_ hs_ => hR0 (k + 1) A3 c3 ⟨by omega, by rw [filt_f (by omega) c20]; exact hk2⟩ (by omega) ac_ w_ (hs_.weaken (.cons rfl (.cons rfl (.cons rfl (.cons rfl (.cons rfl (.cons (congrArg (fun z => some (Value.slice A3 z c3)) (show ((((prs n).take k).filter p).length) = ((((prs n).take (k + 1)).filter p).length) from (by rw [filt_f (by omega) c20]))) (.cons rfl (.nil)))))))) (.cons (.tail .head) (.consE (show row 43 2 A3 ((((prs n).take k).filter p).length) (c3) (cells fE (((prs n).take k).filter p)) = row 43 2 A3 ((((prs n).take (k + 1)).filter p).length) (c3) (cells fE (((prs n).take (k + 1)).filter p)) by rw [filt_f (by omega) c20]) (.tail .head) (.cons (.tail .head) (.nil)))))
  ·
    refine wl_nil ?_
    refine ce_then ?_
    refine cw_seq ?_
    refine cw_false rfl ?_
    refine cw_exit ?_
    refine ce_then_exit ?_
    refine ce_then_exit ?_
    refine ce_hit ?_
    refine ce_then ?_
    refine cw_seq ?_
    refine cw_region ?_
    refine wl_v (ov_move rfl) rfl rfl rfl ?_
    refine wl_v (ov_move rfl) rfl rfl rfl ?_
    refine wl_r (or_call (fv := []) (vs := [.slice A3 ((((prs n).take k).filter p).length) (c3)]) (cs := []) en109 rfl rfl (call_v (fun w hw => clipE_c w A3 ((((prs n).take k).filter p).length) c3 (((prs n).take k).filter p) ((holds_row (List.Mem.tail _ (List.Mem.head _))) w hw) rfl hk2))) rfl rfl (kt0 rfl ?_)
    refine wl_v (ov_build (is := [0, 1]) (vs := [.int .i64 (((n : Nat) : Int)), .slice A3 (((((prs n).take k).filter p).length)) (((((prs n).take k).filter p).length))]) (v := .agg #[.int .i64 (((n : Nat) : Int)), .slice A3 (((((prs n).take k).filter p).length)) (((((prs n).take k).filter p).length))]) rfl rfl (fun _ => by kernel_rfl)) rfl rfl rfl ?_
    refine wl_r0 (or_store_blk (vs := [.int .i64 (((n : Nat) : Int)), .slice A3 (((((prs n).take k).filter p).length)) (((((prs n).take k).filter p).length))]) (cs' := [.int .i64 (((n : Nat) : Int)), .slice A3 (((((prs n).take k).filter p).length)) (((((prs n).take k).filter p).length))]) (.tail (.tail .head)) tI25 rfl rfl rfl rfl (Nat.le_of_ble_eq_true rfl) rfl) rfl rfl (kn0 ?_)
    refine wl_nil ?_
    refine ce_then ?_
    refine cw_ret ?_
    refine ce_results (v := .agg #[.int .i64 (((n : Nat) : Int)), .slice A3 (((((prs n).take k).filter p).length)) (((((prs n).take k).filter p).length))]) (res1 rfl (rv_c rfl tI25 rfl (List.Mem.head _))) (fun w' hw => ?_)
    exact ⟨A3, c3, trivial, (by rw [List.take_of_length_le (show (prs n).length ≤ k by omega)]), ((.consE (show row 43 2 A3 ((((prs n).take k).filter p).length) (c3) (cells fE (((prs n).take k).filter p)) = row 43 2 A3 (((prs n).filter p).length) (c3) (cells fE ((prs n).filter p)) by rw [List.take_of_length_le (show (prs n).length ≤ k by omega)]) (.tail (.tail .head)) (.nil) : Keep _ _).ss hw).to_new⟩
set_option maxRecDepth 100000 in
theorem cpl1_c (w : World) (a : Int) (b : Int) (g1 : Nat) (m : Nat) (A : Option Addr) (n : Nat) (c : Nat) (es : List Ed) (hg1 : At w (some ⟨g1, 0, none⟩) [.int .i64 (((m : Nat) : Int)), .slice A (n) (c)]) (hA : At w A (cells fE es)) (hq : es.length = n) (lA : n ≤ c) (hg : Gr m es) (hm : m ≤ 7) : Calls Try.prog 133 #[.int .i64 (a), .int .i64 (b), elp (some ⟨g1, 0, none⟩) (0)] w (Ret fun rv w' => rv = .bool (!decide (hasE es a b)) ∧ New w w' []) := by
  have og1 := hg1.atB
  have oA := hA.atB
  have hel := hg.len21 hm
  refine fn_enter (args := [.int .i64 (a), .int .i64 (b), elp (some ⟨g1, 0, none⟩) (0)]) Try.func133 rfl Try.ntmps133 rfl (SS.start w) ?_
  refine cw_seq ?_
  refine cw_region ?_
  refine wl_v (ov_assign rfl) rfl rfl rfl ?_
  refine wl_nil ?_
  refine ce_then ?_
  refine cw_seq ?_
  refine cw_region ?_
  refine wl_v (ov_loadAgg (vs := [.int .i64 (((m : Nat) : Int)), .slice A (n) (c)]) tI25 (holds_old og1) rfl some_lit rfl rfl) rfl rfl rfl ?_
  refine wl_v (ov_move rfl) rfl rfl rfl ?_
  refine wl_v (ov_move rfl) rfl rfl rfl ?_
  refine wl_r (or_call (fv := []) (vs := [.agg #[.int .i64 (((m : Nat) : Int)), .slice A (n) (c)], .int .i64 (a), .int .i64 (b)]) (cs := []) en59 rfl rfl (call_v (fun w hw => has_c w ((m : Nat) : Int) A n c es a b ((holds_old oA) w hw) hq lA (by first | assumption | omega | (simp; omega))))) rfl rfl (kt_if rfl (fun c9 => ?_) (fun c9 => ?_))
  ·
    refine wl_v (ov_not rfl) rfl rfl rfl ?_
    refine wl_v (ov_assign rfl) rfl rfl rfl ?_
    refine wl_nil ?_
    refine ce_then ?_
    refine cw_ret ?_
    refine ce_results (v := .bool false) (res1 rfl (rv_t rfl)) (fun w' hw => ?_)
    exact ⟨(by rw [decide_eq_true ((hasE_iff hg a b).2 c9)]; rfl), (Keep.nil.ss hw).to_new⟩
  ·
    refine wl_v (ov_not rfl) rfl rfl rfl ?_
    refine wl_v (ov_assign rfl) rfl rfl rfl ?_
    refine wl_nil ?_
    refine ce_then ?_
    refine cw_ret ?_
    refine ce_results (v := .bool true) (res1 rfl (rv_t rfl)) (fun w' hw => ?_)
    exact ⟨(by rw [decide_eq_false (fun h => c9 ((hasE_iff hg a b).1 h))]; rfl), (Keep.nil.ss hw).to_new⟩
set_option maxRecDepth 100000 in
theorem complI_c (w : World) (m : Nat) (A : Option Addr) (n : Nat) (c : Nat) (es : List (Int × Int)) (hA : At w A (cells fE es)) (eA : es.length = n) (lA : n ≤ c) (hg : Gr m es) (hm : m ≤ 7) : Calls Try.prog 88 #[.agg #[.int .i64 (((m : Nat) : Int)), .slice A (n) (c)]] w (Ret fun rv w' => ∃ A2 c2, (True) ∧ rv = .agg #[.int .i64 (((m : Nat) : Int)), .slice A2 ((compl m es (prs m).length).length) ((compl m es (prs m).length).length)] ∧ New w w' [row 43 2 A2 ((compl m es (prs m).length).length) (c2) (cells fE (compl m es (prs m).length))]) := by
  have oA := hA.atB
  subst eA
  have hce : compl m es (prs m).length = (prs m).filter (fun e : Ed => !decide (hasE es e.1 e.2)) := by rw [compl, List.take_length]
  refine fn_enter (args := [.agg #[.int .i64 (((m : Nat) : Int)), .slice A (es.length) (c)]]) Try.func88 rfl Try.ntmps88 rfl (SS.start w) ?_
  refine cw_seq ?_
  refine cw_region ?_
  refine wl_r (or_box rfl rfl) rfl rfl (kt1 rfl (fun g1 => ?_))
  refine wl_r (or_alloc tI25 rfl) rfl rfl (kt1 rfl (fun g2 => ?_))
  refine wl_nil ?_
  refine ce_then ?_
  refine cw_seq ?_
  refine cw_region ?_
  refine wl_v (ov_fieldAddr fI25_0 some_lit rfl) rfl rfl rfl ?_
  refine wl_v (ov_load tI3 (holds_blk (List.Mem.tail _ (List.Mem.head _))) rfl rfl) rfl rfl rfl ?_
  refine wl_v (ov_makeFunc (vs := #[elp (some ⟨g1, 0, none⟩) (0)]) rfl) rfl rfl rfl ?_
  refine wl_r (or_call (fv := []) (vs := [.int .i64 (((m : Nat) : Int)), .func (.func 133) #[] #[elp (some ⟨g1, 0, none⟩) (0)]]) (cs := []) en55 rfl rfl (call_x2 (fun w hw => which_c w m 133 ([elp (some ⟨g1, 0, none⟩) (0)]) (fun e : Ed => !decide (hasE es e.1 e.2)) (by first | assumption | omega | (simp; omega)) en133 (fun x hx w' hb => cpl1_c w' x.1 x.2 g1 m A es.length c es ((holds_blk (List.Mem.tail _ (List.Mem.head _))) w' (hw.later hb)) ((holds_old oA) w' (hw.later hb)) rfl lA hg hm)))) rfl rfl (kt2p rfl (fun A2_6 c2_6 h_6 => ?_))
  refine wl_r0 (or_store_blk (vs := [.int .i64 (((m : Nat) : Int)), .slice A2_6 (((prs m).filter (fun e : Ed => !decide (hasE es e.1 e.2))).length) (((prs m).filter (fun e : Ed => !decide (hasE es e.1 e.2))).length)]) (cs' := [.int .i64 (((m : Nat) : Int)), .slice A2_6 (((prs m).filter (fun e : Ed => !decide (hasE es e.1 e.2))).length) (((prs m).filter (fun e : Ed => !decide (hasE es e.1 e.2))).length)]) (.tail .head) tI25 rfl rfl rfl rfl (Nat.le_of_ble_eq_true rfl) rfl) rfl rfl (kn0 ?_)
  refine wl_nil ?_
  refine ce_then ?_
  refine cw_ret ?_
  refine ce_results (v := .agg #[.int .i64 (((m : Nat) : Int)), .slice A2_6 (((prs m).filter (fun e : Ed => !decide (hasE es e.1 e.2))).length) (((prs m).filter (fun e : Ed => !decide (hasE es e.1 e.2))).length)]) (res1 rfl (rv_c rfl tI25 rfl (List.Mem.head _))) (fun w' hw => ?_)
  exact ⟨A2_6, c2_6, trivial, (by rw [hce]), ((.consE (show row 43 2 A2_6 (((prs m).filter (fun e : Ed => !decide (hasE es e.1 e.2))).length) (c2_6) (cells fE ((prs m).filter (fun e : Ed => !decide (hasE es e.1 e.2)))) = row 43 2 A2_6 ((compl m es (prs m).length).length) (c2_6) (cells fE (compl m es (prs m).length)) by rw [hce]) (.tail .head) (.nil) : Keep _ _).ss hw).to_new⟩
set_option maxRecDepth 100000 in
theorem realizedC_c (w : World) (A : Option Addr) (n : Nat) (c : Nat) (xs : List (Int)) (A2 : Option Addr) (n2 : Nat) (c2 : Nat) (ys : List (Int)) (hA : At w A (cells fI xs)) (eA : xs.length = n) (lA : n ≤ c) (hA2 : At w A2 (cells fI ys)) (eA2 : ys.length = n2) (lA2 : n2 ≤ c2) (hs : xs.length ≤ 1048576 ∧ ys.length ≤ 1048576) : Calls Try.prog 87 #[.slice A (n) (c), .slice A2 (n2) (c2), .func (.func 88) #[] #[]] w (Ret fun rv w' => ∃ A3 k3 c3 A4 k4 c4, ((rel1 (relV (fun es => compl xs.length es (prs xs.length).length) xs ys)).length ≤ k3 ∧ (rel2 (relV (fun es => compl xs.length es (prs xs.length).length) xs ys)).length ≤ k4) ∧ rv = .tuple #[.agg #[.int .i64 (relN xs.length (relV (fun es => compl xs.length es (prs xs.length).length) xs ys)), .slice A3 ((rel1 (relV (fun es => compl xs.length es (prs xs.length).length) xs ys)).length) (k3)], .agg #[.int .i64 (relN xs.length (relV (fun es => compl xs.length es (prs xs.length).length) xs ys)), .slice A4 ((rel2 (relV (fun es => compl xs.length es (prs xs.length).length) xs ys)).length) (k4)], .bool ((relV (fun es => compl xs.length es (prs xs.length).length) xs ys).isSome)] ∧ New w w' [row 43 2 A3 ((rel1 (relV (fun es => compl xs.length es (prs xs.length).length) xs ys)).length) (c3) (cells fE (rel1 (relV (fun es => compl xs.length es (prs xs.length).length) xs ys))), row 43 2 A4 ((rel2 (relV (fun es => compl xs.length es (prs xs.length).length) xs ys)).length) (c4) (cells fE (rel2 (relV (fun es => compl xs.length es (prs xs.length).length) xs ys)))]) := by
  have oA := hA.atB
  subst eA
  have oA2 := hA2.atB
  subst eA2
  refine fn_enter (args := [.slice A (xs.length) (c), .slice A2 (ys.length) (c2), .func (.func 88) #[] #[]]) Try.func87 rfl Try.ntmps87 rfl (SS.start w) ?_
  refine cw_seq ?_
  refine cw_region ?_
  refine wl_r (or_alloc tI25 rfl) rfl rfl (kt1 rfl (fun g6 => ?_))
  refine wl_r (or_alloc tI25 rfl) rfl rfl (kt1 rfl (fun g7 => ?_))
  refine wl_v (ov_assign rfl) rfl rfl rfl ?_
  refine wl_nil ?_
  refine ce_then ?_
  refine cw_seq ?_
  refine cw_seq ?_
  refine cw_region ?_
  refine wl_v (ov_move rfl) rfl rfl rfl ?_
  refine wl_r (or_call (fv := []) (vs := [.slice A (xs.length) (c), .int .i64 (5)]) (cs := []) en64 rfl rfl (call_v (fun w hw => listed_c w A xs.length c xs 5 ((holds_old oA) w hw) rfl lA (by first | assumption | omega | (simp; omega))))) rfl rfl (kt_if rfl (fun c14 => ?_) (fun c14 => ?_))
  ·
    refine wl_v (ov_not rfl) rfl rfl rfl ?_
    refine wl_v (ov_move rfl) rfl rfl rfl ?_
    refine wl_go rfl rfl ?_
    refine wl_v (ov_move rfl) rfl rfl rfl ?_
    refine wl_go rfl rfl ?_
    refine wl_r (or_call (fv := []) (vs := [.slice A2 (ys.length) (c2), .int .i64 (5)]) (cs := []) en64 rfl rfl (call_v (fun w hw => listed_c w A2 ys.length c2 ys 5 ((holds_old oA2) w hw) rfl lA2 (by first | assumption | omega | (simp; omega))))) rfl rfl (kt_if rfl (fun c18 => ?_) (fun c18 => ?_))
    ·
      refine wl_go rfl rfl ?_
      refine wl_v (ov_not rfl) rfl rfl rfl ?_
      refine wl_v (ov_pick_f rfl rfl) rfl rfl rfl ?_
      refine wl_v (ov_move rfl) rfl rfl rfl ?_
      refine wl_go rfl rfl ?_
      refine wl_v (ov_move rfl) rfl rfl rfl ?_
      refine wl_go rfl rfl ?_
      refine wl_v (ov_len (sliceI_spec sI31) rfl) rfl rfl rfl ?_
      refine wl_go rfl rfl ?_
      refine wl_v (ov_move rfl) rfl rfl rfl ?_
      refine wl_go rfl rfl ?_
      refine wl_v (ov_len (sliceI_spec sI31) rfl) rfl rfl rfl ?_
      refine wl_go rfl rfl ?_
      refine wl_if (ov_neq rfl rfl) rfl rfl rfl (fun c26 => ?_) (fun c26 => ?_)
      ·
        have hv : relV (fun es => compl xs.length es (prs xs.length).length) xs ys = none := if_neg (fun h => c26 (by have := h.2.2.1; omega))
        refine wl_v (ov_pick_f rfl rfl) rfl rfl rfl ?_
        refine wl_nil ?_
        refine ce_then ?_
        refine cw_true rfl ?_
        refine cw_seq ?_
        refine ct_none fE 43 2 ?_
        refine ct_none fE 43 2 ?_
        refine cw_region ?_
        refine wl_v (ov_build (is := []) (vs := []) (v := .agg #[.int .i64 (0), .slice none (0) (0)]) rfl rfl (fun _ => by kernel_rfl)) rfl rfl rfl ?_
        refine wl_v (ov_build (is := []) (vs := []) (v := .agg #[.int .i64 (0), .slice none (0) (0)]) rfl rfl (fun _ => by kernel_rfl)) rfl rfl rfl ?_
        refine wl_r0 (or_store_blk (vs := [.int .i64 (0), .slice none (0) (0)]) (cs' := [.int .i64 (0), .slice none (0) (0)]) (.tail (.tail (.tail .head))) tI25 rfl rfl rfl rfl (Nat.le_of_ble_eq_true rfl) rfl) rfl rfl (kn0 ?_)
        refine wl_r0 (or_store_blk (vs := [.int .i64 (0), .slice none (0) (0)]) (cs' := [.int .i64 (0), .slice none (0) (0)]) (.tail (.tail (.tail .head))) tI25 rfl rfl rfl rfl (Nat.le_of_ble_eq_true rfl) rfl) rfl rfl (kn0 ?_)
        refine wl_v (ov_assign rfl) rfl rfl rfl ?_
        refine wl_nil ?_
        refine ce_then ?_
        refine cw_ret ?_
        refine ce_then_ret ?_
        refine ce_results (v := .tuple #[.agg #[.int .i64 (0), .slice none (0) (0)], .agg #[.int .i64 (0), .slice none (0) (0)], .bool false]) (res3 rfl (rv_c rfl tI25 rfl (List.Mem.tail _ (List.Mem.head _))) (rv_c rfl tI25 rfl (List.Mem.head _)) (rv_t rfl)) (fun w' hw => ?_)
        exact ⟨none, 0, 0, none, 0, 0, ⟨by rw [hv]; exact Nat.le_refl _, by rw [hv]; exact Nat.le_refl _⟩, (by rw [hv] <;> rfl), ((.consE (show row 43 2 none (0) (0) (cells fE ([])) = row 43 2 none ((rel1 (relV (fun es => compl xs.length es (prs xs.length).length) xs ys)).length) (0) (cells fE (rel1 (relV (fun es => compl xs.length es (prs xs.length).length) xs ys))) by rw [hv] <;> rfl) (.tail (.tail (.tail .head))) (.consE (show row 43 2 none (0) (0) (cells fE ([])) = row 43 2 none ((rel2 (relV (fun es => compl xs.length es (prs xs.length).length) xs ys)).length) (0) (cells fE (rel2 (relV (fun es => compl xs.length es (prs xs.length).length) xs ys))) by rw [hv] <;> rfl) (.tail (.tail .head)) (.nil)) : Keep _ _).ss hw).to_new⟩
      ·
        have hcond : Valid xs ∧ Valid ys ∧ xs.length = ys.length ∧ xs.length ≤ 5 := ⟨c14.1, c18.1, by omega, by have := c14.2; omega⟩
        have h5 := hcond.2.2.2
        have hxy := hcond.2.2.1
        refine wl_v (ov_pick_f rfl rfl) rfl rfl rfl ?_
        refine wl_nil ?_
        refine ce_then ?_
        refine cw_false rfl ?_
        refine cw_skip ?_
        refine ce_then ?_
        refine cw_seq ?_
        refine cw_seq ?_
        refine cw_region ?_
        refine wl_v (ov_move rfl) rfl rfl rfl ?_
        refine wl_r (or_call (fv := []) (vs := [.slice A (xs.length) (c)]) (cs := []) en22 rfl rfl (call_x3 (fun w hw => allReal_c w A xs.length c xs ((holds_old oA) w hw) rfl lA (by first | assumption | omega | (simp; omega))))) rfl rfl (kt3p rfl (fun A2_31 c2_31 hs_31 h_31 => ?_))
        refine ct_fact (nest_facts (List.Mem.tail _ (List.Mem.head _))) (fun hnf => ?_)
        have hgl : (gsOf xs.length hs_31).length = (allV xs).length := by rw [gsOf_length]; exact hnf.1
        have hal := allV_len xs
        refine wl_v (ov_len (sliceI_spec sI38) rfl) rfl rfl rfl ?_
        refine wl_v (ov_move rfl) rfl rfl rfl ?_
        refine wl_nil ?_
        refine ce_then ?_
        refine cw_block ?_
        refine cw_loop1 (fun (k : Nat) => [(1, .slice A2 (ys.length) (c2)), (2, .func (.func 88) #[] #[]), (6, elp (some ⟨g6, 0, none⟩) (0)), (7, elp (some ⟨g7, 0, none⟩) (0)), (31, .slice A2_31 ((allV xs).length) ((allV xs).length)), (32, .int .i64 ((((allV xs).length : Nat) : Int))), (33, .int .i64 (((k : Nat) : Int)))]) (fun (k : Nat) => [row 25 2 A2_31 ((allV xs).length) (c2_31) (cells fG (gsOf xs.length hs_31)), nest 43 2 fE hs_31 (allV xs), blk g7 [.int .i64 (0), .slice none (0) (0)] 25, blk g6 [.int .i64 (0), .slice none (0) (0)] 25]) (fun (k : Nat) => k ≤ (allV xs).length ∧ ∀ j, j < k → relF (fun es => compl xs.length (es) (prs xs.length).length) ys ((allV xs).getD j []) = none) (fun (k : Nat) => (allV xs).length - k) 0 ⟨by omega, fun j hj => absurd hj (Nat.not_lt_zero _)⟩ (.cons rfl (.cons rfl (.cons rfl (.cons rfl (.cons rfl (.cons rfl (.cons (congrArg (fun z => some (Value.int .i64 z)) (show 0 = ((0 : Nat) : Int) by first | omega | rfl | (simp; done))) (.nil)))))))) (.cons (.head) (.cons (.head) (.cons (.head) (.cons (.head) (.nil))))) ?_
        intro R0 k hk hR0
        obtain ⟨hk1, hk2⟩ := hk
        refine cw_seq ?_
        refine cw_region ?_
        refine wl_if (ov_lss rfl rfl) rfl rfl rfl (fun c34 => ?_) (fun c34 => ?_)
        ·
          refine wl_nil ?_
          refine ce_then ?_
          refine cw_seq ?_
          refine cw_true rfl ?_
          refine cw_skip ?_
          refine ce_then ?_
          refine cw_seq ?_
          refine cw_block ?_
          refine cw_seq ?_
          refine cw_region ?_
          refine ct_fact (nest_facts (List.Mem.tail _ (List.Mem.head _))) (fun hnf35 => ?_)
          have hnl35 := hnf35.1
          refine wl_v (ov_index (k := k) (c := (allV xs).length) sI38 tI25 rfl rfl (some_holds (q := k * 2) (holds_row (List.Mem.head _)) (by rw [cells_length fG_len]; have hlt : k < (gsOf xs.length hs_31).length := (by omega); omega)) (show k < (allV xs).length from (by omega))) rfl rfl rfl ?_
          refine wl_v (ov_loadAgg (vs := [.int .i64 (((xs.length : Nat) : Int)), .slice ((hs_31.getD k (none, 0, 0)).1) (((allV xs).getD k []).length) ((hs_31.getD k (none, 0, 0)).2.2)]) tI25 (holds_row (List.Mem.head _)) rfl (some_holds (q := k * 2) (holds_row (List.Mem.head _)) (by rw [cells_length fG_len]; have hlt : k < (gsOf xs.length hs_31).length := (by omega); omega)) (elem_fG hnf35 (show k < (allV xs).length from (by omega))) rfl) rfl rfl rfl ?_
          refine wl_r (or_alloc tI25 rfl) rfl rfl (kt1 rfl (fun g10 => ?_))
          refine wl_r0 (or_store_blk (vs := [.int .i64 (((xs.length : Nat) : Int)), .slice ((hs_31.getD k (none, 0, 0)).1) (((allV xs).getD k []).length) ((hs_31.getD k (none, 0, 0)).2.2)]) (cs' := [.int .i64 (((xs.length : Nat) : Int)), .slice ((hs_31.getD k (none, 0, 0)).1) (((allV xs).getD k []).length) ((hs_31.getD k (none, 0, 0)).2.2)]) (.head) tI25 rfl rfl rfl rfl (Nat.le_of_ble_eq_true rfl) rfl) rfl rfl (kn0 ?_)
          refine wl_nil ?_
          refine ce_then ?_
          refine cw_seq ?_
          refine cw_region ?_
          refine wl_v (ov_move rfl) rfl rfl rfl ?_
          refine wl_v (ov_loadAgg (vs := [.int .i64 (((xs.length : Nat) : Int)), .slice ((hs_31.getD k (none, 0, 0)).1) (((allV xs).getD k []).length) ((hs_31.getD k (none, 0, 0)).2.2)]) tI25 (holds_blk (List.Mem.head _)) rfl some_lit rfl rfl) rfl rfl rfl ?_
          refine wl_r (or_call (fv := []) (vs := [.agg #[.int .i64 (((xs.length : Nat) : Int)), .slice ((hs_31.getD k (none, 0, 0)).1) (((allV xs).getD k []).length) ((hs_31.getD k (none, 0, 0)).2.2)]]) (cs := []) en88 rfl rfl (call_x2 (fun w hw => complI_c w xs.length ((hs_31.getD k (none, 0, 0)).1) (((allV xs).getD k []).length) ((hs_31.getD k (none, 0, 0)).2.2) ((allV xs).getD k []) ((holds_nest (List.Mem.tail _ (List.Mem.tail _ (List.Mem.head _))) (show k < (allV xs).length from (by omega))) w hw) rfl (hnf35.2 k (show k < (allV xs).length from (by omega))).2 (allV_gr (by omega)) (by omega)))) rfl rfl (kt2p rfl (fun A2_40 c2_40 h_40 => ?_))
          refine wl_v (ov_move rfl) rfl rfl rfl ?_
          refine wl_r (or_call (fv := []) (vs := [.agg #[.int .i64 (((xs.length : Nat) : Int)), .slice A2_40 ((compl xs.length ((allV xs).getD k []) (prs xs.length).length).length) ((compl xs.length ((allV xs).getD k []) (prs xs.length).length).length)], .slice A2 (ys.length) (c2)]) (cs := []) en72 rfl rfl (call_x4 (fun w hw => factor_c w xs.length A2_40 ((compl xs.length ((allV xs).getD k []) (prs xs.length).length).length) ((compl xs.length ((allV xs).getD k []) (prs xs.length).length).length) (compl xs.length ((allV xs).getD k []) (prs xs.length).length) A2 ys.length c2 ys ((holds_row (List.Mem.head _)) w hw) rfl (Nat.le_refl _) ((holds_old oA2) w hw) rfl lA2 (gr_of_sublist (compl_sub _ _ _)) ⟨by omega, by omega⟩ (fun x hx => by have := c18.1.2 x hx; have := c18.1.1; omega)))) rfl rfl (kt4p rfl (fun N2_42 A2_42 k2_42 c2_42 h_42 => ?_))
          refine wl_v (ov_move rfl) rfl rfl rfl ?_
          refine wl_v (ov_extract rfl rfl) rfl rfl rfl ?_
          refine wl_v (ov_extract rfl rfl) rfl rfl rfl ?_
          refine wl_r (or_alloc tI25 rfl) rfl rfl (kt1 rfl (fun g11 => ?_))
          refine wl_r0 (or_store_blk (vs := [.int .i64 (N2_42), .slice A2_42 ((facV (compl xs.length ((allV xs).getD k []) (prs xs.length).length) ys).1.length) (k2_42)]) (cs' := [.int .i64 (N2_42), .slice A2_42 ((facV (compl xs.length ((allV xs).getD k []) (prs xs.length).length) ys).1.length) (k2_42)]) (.head) tI25 rfl rfl rfl rfl (Nat.le_of_ble_eq_true rfl) rfl) rfl rfl (kn0 ?_)
          refine wl_v (ov_assign rfl) rfl rfl rfl ?_
          refine wl_nil ?_
          refine ce_then ?_
          refine cw_seq ?_
          refine cw_region ?_
          refine wl_v (ov_move rfl) rfl rfl rfl ?_
          refine wl_nil ?_
          refine ce_then ?_
          refine ct_bool (i := 45) rfl (fun b45 => ?_) (fun b45 => ?_)
          ·
            have hfn : facN xs.length (facV (compl xs.length (((allV xs).getD k [])) (prs xs.length).length) ys) = (xs.length : Int) := if_pos b45
            have hv : relV (fun es => compl xs.length es (prs xs.length).length) xs ys = some ((allV xs).getD k [], (facV (compl xs.length (((allV xs).getD k [])) (prs xs.length).length) ys).1) := (if_pos hcond).trans (found_at [] (i := k) (by omega) (if_pos b45) hk2)
            refine cw_true rfl ?_
            refine cw_seq ?_
            refine cw_draw mixO [] (.cons (.head) (.cons (.head) (.cons (.head) (.cons (.head) (.cons (.head) (.cons (.head) (.nil))))))) rfl ?_
            refine wg_take (i := 0) rfl (ov_loadAgg (vs := [.int .i64 (((xs.length : Nat) : Int)), .slice ((hs_31.getD k (none, 0, 0)).1) (((allV xs).getD k []).length) ((hs_31.getD k (none, 0, 0)).2.2)]) tI25 (holds_blk (List.Mem.tail _ (List.Mem.tail _ (List.Mem.tail _ (List.Mem.head _))))) rfl some_lit rfl rfl) rfl rfl rfl (by kernel_rfl) (by kernel_rfl) (by kernel_rfl) (by kernel_rfl) ?_
            refine wg_take (i := 1) rfl (ov_loadAgg (vs := [.int .i64 (N2_42), .slice A2_42 ((facV (compl xs.length ((allV xs).getD k []) (prs xs.length).length) ys).1.length) (k2_42)]) tI25 (holds_blk (List.Mem.head _)) rfl some_lit rfl rfl) rfl rfl rfl (by kernel_rfl) (by kernel_rfl) (by kernel_rfl) (by kernel_rfl) ?_
            refine wg_one (i := 2) (by kernel_rfl) ?_
            refine go_r0 rfl rfl rfl rfl (or_store_blk (vs := [.int .i64 (((xs.length : Nat) : Int)), .slice ((hs_31.getD k (none, 0, 0)).1) (((allV xs).getD k []).length) ((hs_31.getD k (none, 0, 0)).2.2)]) (cs' := [.int .i64 (((xs.length : Nat) : Int)), .slice ((hs_31.getD k (none, 0, 0)).1) (((allV xs).getD k []).length) ((hs_31.getD k (none, 0, 0)).2.2)]) (.tail (.tail (.tail (.tail (.tail (.tail (.tail .head))))))) tI25 rfl rfl rfl rfl (Nat.le_of_ble_eq_true rfl) rfl) (kn0 ?_)
            refine gk (.cons (.tail .head) (.cons (.tail .head) (.cons (.tail .head) (.cons (.tail .head) (.cons (.tail .head) (.cons (.tail .head) (.nil))))))) ?_
            refine wg_one (i := 3) (by kernel_rfl) ?_
            refine go_r0 rfl rfl rfl rfl (or_store_blk (vs := [.int .i64 (N2_42), .slice A2_42 ((facV (compl xs.length ((allV xs).getD k []) (prs xs.length).length) ys).1.length) (k2_42)]) (cs' := [.int .i64 (N2_42), .slice A2_42 ((facV (compl xs.length ((allV xs).getD k []) (prs xs.length).length) ys).1.length) (k2_42)]) (.tail (.tail (.tail (.tail (.tail (.tail (.tail .head))))))) tI25 rfl rfl rfl rfl (Nat.le_of_ble_eq_true rfl) rfl) (kn0 ?_)
            refine gk (.cons (.tail (.tail .head)) (.cons (.tail (.tail .head)) (.cons (.tail (.tail .head)) (.cons (.tail (.tail .head)) (.cons (.tail (.tail .head)) (.cons (.tail (.tail .head)) (.nil))))))) ?_
            refine wg_takep (i := 4) rfl (ov_assign rfl) rfl rfl rfl (by kernel_rfl) (by kernel_rfl) (by kernel_rfl) rfl ?_
            refine wg_done (by kernel_rfl) ?_
            refine ce_then ?_
            refine cw_ret ?_
            refine ce_block_ret ?_
            refine ce_then_ret ?_
            refine ce_then_ret ?_
            refine ce_block_ret ?_
            refine ce_then_ret ?_
            refine ct_pull (i := k) (.cons (.tail (.tail (.tail (.tail (.tail (.tail (.tail .head))))))) (.cons (.head) (.cons (.head) (.cons (.head) (.cons (.head) (.cons (.head) (.cons (.head) (.cons (.head) (.nil))))))))) (by omega) (fun cp => ?_)
            refine ce_results (v := .tuple #[.agg #[.int .i64 (((xs.length : Nat) : Int)), .slice ((hs_31.getD k (none, 0, 0)).1) (((allV xs).getD k []).length) ((hs_31.getD k (none, 0, 0)).2.2)], .agg #[.int .i64 (N2_42), .slice A2_42 ((facV (compl xs.length ((allV xs).getD k []) (prs xs.length).length) ys).1.length) (k2_42)], .bool true]) (res3 rfl (rv_c rfl tI25 rfl (List.Mem.tail _ (List.Mem.tail _ (List.Mem.head _)))) (rv_c rfl tI25 rfl (List.Mem.tail _ (List.Mem.head _))) (rv_t rfl)) (fun w' hw => ?_)
            exact ⟨(hs_31.getD k (none, 0, 0)).1, (hs_31.getD k (none, 0, 0)).2.2, cp, A2_42, k2_42, c2_42, ⟨by rw [hv]; exact (hnf.2 k (by omega)).2, by rw [hv]; exact h_42.1⟩, (by rw [hv, h_42.2, hfn] <;> rfl), ((.consE (show row 43 2 ((hs_31.getD k (none, 0, 0)).1) (((allV xs).getD k []).length) (cp) (cells fE ((allV xs).getD k [])) = row 43 2 ((hs_31.getD k (none, 0, 0)).1) ((rel1 (relV (fun es => compl xs.length es (prs xs.length).length) xs ys)).length) (cp) (cells fE (rel1 (relV (fun es => compl xs.length es (prs xs.length).length) xs ys))) by rw [hv] <;> rfl) (.head) (.consE (show row 43 2 A2_42 ((facV (compl xs.length ((allV xs).getD k []) (prs xs.length).length) ys).1.length) (c2_42) (cells fE ((facV (compl xs.length ((allV xs).getD k []) (prs xs.length).length) ys).1)) = row 43 2 A2_42 ((rel2 (relV (fun es => compl xs.length es (prs xs.length).length) xs ys)).length) (c2_42) (cells fE (rel2 (relV (fun es => compl xs.length es (prs xs.length).length) xs ys))) by rw [hv] <;> rfl) (.tail (.tail (.tail .head))) (.nil)) : Keep _ _).ss hw).to_new⟩
          ·
            refine cw_false rfl ?_
            refine cw_skip ?_
            refine ce_block ?_
            refine ce_then ?_
            refine cw_region ?_
            refine wl_v (ov_add (r := ((k + 1 : Nat) : Int)) rfl rfl rfl (by omega)) rfl rfl rfl ?_
            refine wl_v (ov_move rfl) rfl rfl rfl ?_
            refine wl_nil ?_
            exact fun ac_ w_ hs_ => hR0 (k + 1) ⟨by omega, fun j hj => by rcases Nat.lt_succ_iff_lt_or_eq.1 hj with h | rfl; exact hk2 j h; exact if_neg (by rw [b45]; decide)⟩ (by omega) ac_ w_ (hs_.weaken (.cons rfl (.cons rfl (.cons rfl (.cons rfl (.cons rfl (.cons rfl (.cons rfl (.nil)))))))) (.cons (.tail (.tail (.tail (.tail .head)))) (.cons (.tail (.tail (.tail (.tail .head)))) (.cons (.tail (.tail (.tail (.tail .head)))) (.cons (.tail (.tail (.tail (.tail .head)))) (.nil))))))
        ·
          have hv : relV (fun es => compl xs.length es (prs xs.length).length) xs ys = none := (if_pos hcond).trans (found_no [] (fun j hj => hk2 j (by omega)))
          refine wl_nil ?_
          refine ce_then ?_
          refine cw_seq ?_
          refine cw_false rfl ?_
          refine cw_exit ?_
          refine ce_then_exit ?_
          refine ce_then_exit ?_
          refine ce_hit ?_
          refine ce_then ?_
          refine cw_seq ?_
          refine ct_none fE 43 2 ?_
          refine ct_none fE 43 2 ?_
          refine cw_region ?_
          refine wl_v (ov_build (is := []) (vs := []) (v := .agg #[.int .i64 (0), .slice none (0) (0)]) rfl rfl (fun _ => by kernel_rfl)) rfl rfl rfl ?_
          refine wl_v (ov_build (is := []) (vs := []) (v := .agg #[.int .i64 (0), .slice none (0) (0)]) rfl rfl (fun _ => by kernel_rfl)) rfl rfl rfl ?_
          refine wl_r0 (or_store_blk (vs := [.int .i64 (0), .slice none (0) (0)]) (cs' := [.int .i64 (0), .slice none (0) (0)]) (.tail (.tail (.tail (.tail (.tail .head))))) tI25 rfl rfl rfl rfl (Nat.le_of_ble_eq_true rfl) rfl) rfl rfl (kn0 ?_)
          refine wl_r0 (or_store_blk (vs := [.int .i64 (0), .slice none (0) (0)]) (cs' := [.int .i64 (0), .slice none (0) (0)]) (.tail (.tail (.tail (.tail (.tail .head))))) tI25 rfl rfl rfl rfl (Nat.le_of_ble_eq_true rfl) rfl) rfl rfl (kn0 ?_)
          refine wl_v (ov_assign rfl) rfl rfl rfl ?_
          refine wl_nil ?_
          refine ce_then ?_
          refine cw_ret ?_
          refine ce_results (v := .tuple #[.agg #[.int .i64 (0), .slice none (0) (0)], .agg #[.int .i64 (0), .slice none (0) (0)], .bool false]) (res3 rfl (rv_c rfl tI25 rfl (List.Mem.tail _ (List.Mem.head _))) (rv_c rfl tI25 rfl (List.Mem.head _)) (rv_t rfl)) (fun w' hw => ?_)
          exact ⟨none, 0, 0, none, 0, 0, ⟨by rw [hv]; exact Nat.le_refl _, by rw [hv]; exact Nat.le_refl _⟩, (by rw [hv] <;> rfl), ((.consE (show row 43 2 none (0) (0) (cells fE ([])) = row 43 2 none ((rel1 (relV (fun es => compl xs.length es (prs xs.length).length) xs ys)).length) (0) (cells fE (rel1 (relV (fun es => compl xs.length es (prs xs.length).length) xs ys))) by rw [hv] <;> rfl) (.tail (.tail (.tail .head))) (.consE (show row 43 2 none (0) (0) (cells fE ([])) = row 43 2 none ((rel2 (relV (fun es => compl xs.length es (prs xs.length).length) xs ys)).length) (0) (cells fE (rel2 (relV (fun es => compl xs.length es (prs xs.length).length) xs ys))) by rw [hv] <;> rfl) (.tail (.tail .head)) (.nil)) : Keep _ _).ss hw).to_new⟩
    ·
      have hv : relV (fun es => compl xs.length es (prs xs.length).length) xs ys = none := if_neg (fun h => c18 ⟨h.2.1, by have := h.2.2.2; have := h.2.2.1; omega⟩)
      refine wl_go rfl rfl ?_
      refine wl_v (ov_not rfl) rfl rfl rfl ?_
      refine wl_v (ov_pick_f rfl rfl) rfl rfl rfl ?_
      refine wl_v (ov_move rfl) rfl rfl rfl ?_
      refine wl_not rfl rfl rfl rfl rfl rfl ?_
      refine wl_not rfl rfl rfl rfl rfl rfl ?_
      refine wl_not rfl rfl rfl rfl rfl rfl ?_
      refine wl_not rfl rfl rfl rfl rfl rfl ?_
      refine wl_not rfl rfl rfl rfl rfl rfl ?_
      refine wl_v (ov_pick_t rfl rfl) rfl rfl rfl ?_
      refine wl_nil ?_
      refine ce_then ?_
      refine cw_true rfl ?_
      refine cw_seq ?_
      refine ct_none fE 43 2 ?_
      refine ct_none fE 43 2 ?_
      refine cw_region ?_
      refine wl_v (ov_build (is := []) (vs := []) (v := .agg #[.int .i64 (0), .slice none (0) (0)]) rfl rfl (fun _ => by kernel_rfl)) rfl rfl rfl ?_
      refine wl_v (ov_build (is := []) (vs := []) (v := .agg #[.int .i64 (0), .slice none (0) (0)]) rfl rfl (fun _ => by kernel_rfl)) rfl rfl rfl ?_
      refine wl_r0 (or_store_blk (vs := [.int .i64 (0), .slice none (0) (0)]) (cs' := [.int .i64 (0), .slice none (0) (0)]) (.tail (.tail (.tail .head))) tI25 rfl rfl rfl rfl (Nat.le_of_ble_eq_true rfl) rfl) rfl rfl (kn0 ?_)
      refine wl_r0 (or_store_blk (vs := [.int .i64 (0), .slice none (0) (0)]) (cs' := [.int .i64 (0), .slice none (0) (0)]) (.tail (.tail (.tail .head))) tI25 rfl rfl rfl rfl (Nat.le_of_ble_eq_true rfl) rfl) rfl rfl (kn0 ?_)
      refine wl_v (ov_assign rfl) rfl rfl rfl ?_
      refine wl_nil ?_
      refine ce_then ?_
      refine cw_ret ?_
      refine ce_then_ret ?_
      refine ce_results (v := .tuple #[.agg #[.int .i64 (0), .slice none (0) (0)], .agg #[.int .i64 (0), .slice none (0) (0)], .bool false]) (res3 rfl (rv_c rfl tI25 rfl (List.Mem.tail _ (List.Mem.head _))) (rv_c rfl tI25 rfl (List.Mem.head _)) (rv_t rfl)) (fun w' hw => ?_)
      exact ⟨none, 0, 0, none, 0, 0, ⟨by rw [hv]; exact Nat.le_refl _, by rw [hv]; exact Nat.le_refl _⟩, (by rw [hv] <;> rfl), ((.consE (show row 43 2 none (0) (0) (cells fE ([])) = row 43 2 none ((rel1 (relV (fun es => compl xs.length es (prs xs.length).length) xs ys)).length) (0) (cells fE (rel1 (relV (fun es => compl xs.length es (prs xs.length).length) xs ys))) by rw [hv] <;> rfl) (.tail (.tail (.tail .head))) (.consE (show row 43 2 none (0) (0) (cells fE ([])) = row 43 2 none ((rel2 (relV (fun es => compl xs.length es (prs xs.length).length) xs ys)).length) (0) (cells fE (rel2 (relV (fun es => compl xs.length es (prs xs.length).length) xs ys))) by rw [hv] <;> rfl) (.tail (.tail .head)) (.nil)) : Keep _ _).ss hw).to_new⟩
  ·
    have hv : relV (fun es => compl xs.length es (prs xs.length).length) xs ys = none := if_neg (fun h => c14 ⟨h.1, by have := h.2.2.2; omega⟩)
    refine wl_v (ov_not rfl) rfl rfl rfl ?_
    refine wl_v (ov_move rfl) rfl rfl rfl ?_
    refine wl_not rfl rfl rfl rfl rfl rfl ?_
    refine wl_not rfl rfl rfl rfl rfl rfl ?_
    refine wl_not rfl rfl rfl rfl rfl rfl ?_
    refine wl_v (ov_pick_t rfl rfl) rfl rfl rfl ?_
    refine wl_v (ov_move rfl) rfl rfl rfl ?_
    refine wl_not rfl rfl rfl rfl rfl rfl ?_
    refine wl_not rfl rfl rfl rfl rfl rfl ?_
    refine wl_not rfl rfl rfl rfl rfl rfl ?_
    refine wl_not rfl rfl rfl rfl rfl rfl ?_
    refine wl_not rfl rfl rfl rfl rfl rfl ?_
    refine wl_v (ov_pick_t rfl rfl) rfl rfl rfl ?_
    refine wl_nil ?_
    refine ce_then ?_
    refine cw_true rfl ?_
    refine cw_seq ?_
    refine ct_none fE 43 2 ?_
    refine ct_none fE 43 2 ?_
    refine cw_region ?_
    refine wl_v (ov_build (is := []) (vs := []) (v := .agg #[.int .i64 (0), .slice none (0) (0)]) rfl rfl (fun _ => by kernel_rfl)) rfl rfl rfl ?_
    refine wl_v (ov_build (is := []) (vs := []) (v := .agg #[.int .i64 (0), .slice none (0) (0)]) rfl rfl (fun _ => by kernel_rfl)) rfl rfl rfl ?_
    refine wl_r0 (or_store_blk (vs := [.int .i64 (0), .slice none (0) (0)]) (cs' := [.int .i64 (0), .slice none (0) (0)]) (.tail (.tail (.tail .head))) tI25 rfl rfl rfl rfl (Nat.le_of_ble_eq_true rfl) rfl) rfl rfl (kn0 ?_)
    refine wl_r0 (or_store_blk (vs := [.int .i64 (0), .slice none (0) (0)]) (cs' := [.int .i64 (0), .slice none (0) (0)]) (.tail (.tail (.tail .head))) tI25 rfl rfl rfl rfl (Nat.le_of_ble_eq_true rfl) rfl) rfl rfl (kn0 ?_)
    refine wl_v (ov_assign rfl) rfl rfl rfl ?_
    refine wl_nil ?_
    refine ce_then ?_
    refine cw_ret ?_
    refine ce_then_ret ?_
    refine ce_results (v := .tuple #[.agg #[.int .i64 (0), .slice none (0) (0)], .agg #[.int .i64 (0), .slice none (0) (0)], .bool false]) (res3 rfl (rv_c rfl tI25 rfl (List.Mem.tail _ (List.Mem.head _))) (rv_c rfl tI25 rfl (List.Mem.head _)) (rv_t rfl)) (fun w' hw => ?_)
    exact ⟨none, 0, 0, none, 0, 0, ⟨by rw [hv]; exact Nat.le_refl _, by rw [hv]; exact Nat.le_refl _⟩, (by rw [hv] <;> rfl), ((.consE (show row 43 2 none (0) (0) (cells fE ([])) = row 43 2 none ((rel1 (relV (fun es => compl xs.length es (prs xs.length).length) xs ys)).length) (0) (cells fE (rel1 (relV (fun es => compl xs.length es (prs xs.length).length) xs ys))) by rw [hv] <;> rfl) (.tail (.tail (.tail .head))) (.consE (show row 43 2 none (0) (0) (cells fE ([])) = row 43 2 none ((rel2 (relV (fun es => compl xs.length es (prs xs.length).length) xs ys)).length) (0) (cells fE (rel2 (relV (fun es => compl xs.length es (prs xs.length).length) xs ys))) by rw [hv] <;> rfl) (.tail (.tail .head)) (.nil)) : Keep _ _).ss hw).to_new⟩
set_option maxRecDepth 100000 in
theorem PackI_c (w : World) (A : Option Addr) (n : Nat) (c : Nat) (xs : List (Int)) (A2 : Option Addr) (n2 : Nat) (c2 : Nat) (ys : List (Int)) (hA : At w A (cells fI xs)) (eA : xs.length = n) (lA : n ≤ c) (hA2 : At w A2 (cells fI ys)) (eA2 : ys.length = n2) (lA2 : n2 ≤ c2) (hs : xs.length ≤ 1048576 ∧ ys.length ≤ 1048576) : Calls Try.prog 36 #[.slice A (n) (c), .slice A2 (n2) (c2)] w (Ret fun rv w' => ∃ A3 k3 c3 A4 k4 c4, ((rel1 (relV (fun es => compl xs.length es (prs xs.length).length) xs ys)).length ≤ k3 ∧ (rel2 (relV (fun es => compl xs.length es (prs xs.length).length) xs ys)).length ≤ k4) ∧ rv = .tuple #[.agg #[.int .i64 (relN xs.length (relV (fun es => compl xs.length es (prs xs.length).length) xs ys)), .slice A3 ((rel1 (relV (fun es => compl xs.length es (prs xs.length).length) xs ys)).length) (k3)], .agg #[.int .i64 (relN xs.length (relV (fun es => compl xs.length es (prs xs.length).length) xs ys)), .slice A4 ((rel2 (relV (fun es => compl xs.length es (prs xs.length).length) xs ys)).length) (k4)], .bool ((relV (fun es => compl xs.length es (prs xs.length).length) xs ys).isSome)] ∧ New w w' [row 43 2 A3 ((rel1 (relV (fun es => compl xs.length es (prs xs.length).length) xs ys)).length) (c3) (cells fE (rel1 (relV (fun es => compl xs.length es (prs xs.length).length) xs ys))), row 43 2 A4 ((rel2 (relV (fun es => compl xs.length es (prs xs.length).length) xs ys)).length) (c4) (cells fE (rel2 (relV (fun es => compl xs.length es (prs xs.length).length) xs ys)))]) := by
  have oA := hA.atB
  subst eA
  have oA2 := hA2.atB
  subst eA2
  refine fn_enter (args := [.slice A (xs.length) (c), .slice A2 (ys.length) (c2)]) Try.func36 rfl Try.ntmps36 rfl (SS.start w) ?_
  refine cw_seq ?_
  refine cw_region ?_
  refine wl_r (or_alloc tI25 rfl) rfl rfl (kt1 rfl (fun g4 => ?_))
  refine wl_r (or_alloc tI25 rfl) rfl rfl (kt1 rfl (fun g5 => ?_))
  refine wl_v (ov_assign rfl) rfl rfl rfl ?_
  refine wl_nil ?_
  refine ce_then ?_
  refine cw_seq ?_
  refine cw_region ?_
  refine wl_v (ov_move rfl) rfl rfl rfl ?_
  refine wl_v (ov_move rfl) rfl rfl rfl ?_
  refine wl_r (or_call (fv := []) (vs := [.slice A (xs.length) (c), .slice A2 (ys.length) (c2), .func (.func 88) #[] #[]]) (cs := []) en87 rfl rfl (call_x6 (fun w hw => realizedC_c w A xs.length c xs A2 ys.length c2 ys ((holds_old oA) w hw) rfl lA ((holds_old oA2) w hw) rfl lA2 (by first | assumption | omega | (simp; omega))))) rfl rfl (kt6p rfl (fun A3_9 k3_9 c3_9 A4_9 k4_9 c4_9 h_9 => ?_))
  refine wl_v (ov_extract rfl rfl) rfl rfl rfl ?_
  refine wl_v (ov_extract rfl rfl) rfl rfl rfl ?_
  refine wl_v (ov_extract rfl rfl) rfl rfl rfl ?_
  refine wl_r0 (or_store_blk (vs := [.int .i64 (relN xs.length (relV (fun es => compl xs.length es (prs xs.length).length) xs ys)), .slice A3_9 ((rel1 (relV (fun es => compl xs.length es (prs xs.length).length) xs ys)).length) (k3_9)]) (cs' := [.int .i64 (relN xs.length (relV (fun es => compl xs.length es (prs xs.length).length) xs ys)), .slice A3_9 ((rel1 (relV (fun es => compl xs.length es (prs xs.length).length) xs ys)).length) (k3_9)]) (.tail (.tail (.tail .head))) tI25 rfl rfl rfl rfl (Nat.le_of_ble_eq_true rfl) rfl) rfl rfl (kn0 ?_)
  refine wl_r0 (or_store_blk (vs := [.int .i64 (relN xs.length (relV (fun es => compl xs.length es (prs xs.length).length) xs ys)), .slice A4_9 ((rel2 (relV (fun es => compl xs.length es (prs xs.length).length) xs ys)).length) (k4_9)]) (cs' := [.int .i64 (relN xs.length (relV (fun es => compl xs.length es (prs xs.length).length) xs ys)), .slice A4_9 ((rel2 (relV (fun es => compl xs.length es (prs xs.length).length) xs ys)).length) (k4_9)]) (.tail (.tail (.tail .head))) tI25 rfl rfl rfl rfl (Nat.le_of_ble_eq_true rfl) rfl) rfl rfl (kn0 ?_)
  refine wl_v (ov_assign rfl) rfl rfl rfl ?_
  refine wl_nil ?_
  refine ce_then ?_
  refine cw_ret ?_
  refine ce_results (v := .tuple #[.agg #[.int .i64 (relN xs.length (relV (fun es => compl xs.length es (prs xs.length).length) xs ys)), .slice A3_9 ((rel1 (relV (fun es => compl xs.length es (prs xs.length).length) xs ys)).length) (k3_9)], .agg #[.int .i64 (relN xs.length (relV (fun es => compl xs.length es (prs xs.length).length) xs ys)), .slice A4_9 ((rel2 (relV (fun es => compl xs.length es (prs xs.length).length) xs ys)).length) (k4_9)], .bool ((relV (fun es => compl xs.length es (prs xs.length).length) xs ys).isSome)]) (res3 rfl (rv_c rfl tI25 rfl (List.Mem.tail _ (List.Mem.head _))) (rv_c rfl tI25 rfl (List.Mem.head _)) (rv_t rfl)) (fun w' hw => ?_)
  exact ⟨A3_9, k3_9, c3_9, A4_9, k4_9, c4_9, h_9, rfl, ((.cons (.tail (.tail .head)) (.cons (.tail (.tail .head)) (.nil)) : Keep _ _).ss hw).to_new⟩
set_option maxRecDepth 100000 in
theorem PackS_c (w : World) (A : Option Addr) (n : Nat) (c : Nat) (xs : List (Int)) (A2 : Option Addr) (n2 : Nat) (c2 : Nat) (ys : List (Int)) (hA : At w A (cells fI xs)) (eA : xs.length = n) (lA : n ≤ c) (hA2 : At w A2 (cells fI ys)) (eA2 : ys.length = n2) (lA2 : n2 ≤ c2) (hs : xs.length ≤ 1048576 ∧ ys.length ≤ 1048576) : Calls Try.prog 37 #[.slice A (n) (c), .slice A2 (n2) (c2)] w (Ret fun rv w' => ∃ A3 k3 c3 A4 k4 c4, ((rel1 (relV (fun es => compl xs.length es (prs xs.length).length) xs ys)).length ≤ k3 ∧ (rel2 (relV (fun es => compl xs.length es (prs xs.length).length) xs ys)).length ≤ k4) ∧ rv = .tuple #[.agg #[.int .i64 (relN xs.length (relV (fun es => compl xs.length es (prs xs.length).length) xs ys)), .slice A3 ((rel1 (relV (fun es => compl xs.length es (prs xs.length).length) xs ys)).length) (k3)], .agg #[.int .i64 (relN xs.length (relV (fun es => compl xs.length es (prs xs.length).length) xs ys)), .slice A4 ((rel2 (relV (fun es => compl xs.length es (prs xs.length).length) xs ys)).length) (k4)], .bool ((relV (fun es => compl xs.length es (prs xs.length).length) xs ys).isSome)] ∧ New w w' [row 43 2 A3 ((rel1 (relV (fun es => compl xs.length es (prs xs.length).length) xs ys)).length) (c3) (cells fE (rel1 (relV (fun es => compl xs.length es (prs xs.length).length) xs ys))), row 43 2 A4 ((rel2 (relV (fun es => compl xs.length es (prs xs.length).length) xs ys)).length) (c4) (cells fE (rel2 (relV (fun es => compl xs.length es (prs xs.length).length) xs ys)))]) := by
  have oA := hA.atB
  subst eA
  have oA2 := hA2.atB
  subst eA2
  refine fn_enter (args := [.slice A (xs.length) (c), .slice A2 (ys.length) (c2)]) Try.func37 rfl Try.ntmps37 rfl (SS.start w) ?_
  refine cw_seq ?_
  refine cw_region ?_
  refine wl_r (or_alloc tI25 rfl) rfl rfl (kt1 rfl (fun g4 => ?_))
  refine wl_r (or_alloc tI25 rfl) rfl rfl (kt1 rfl (fun g5 => ?_))
  refine wl_v (ov_assign rfl) rfl rfl rfl ?_
  refine wl_nil ?_
  refine ce_then ?_
  refine cw_seq ?_
  refine cw_seq ?_
  refine cw_region ?_
  refine wl_v (ov_move rfl) rfl rfl rfl ?_
  refine wl_r (or_call (fv := []) (vs := [.slice A (xs.length) (c)]) (cs := []) en60 rfl rfl (call_v (fun w hw => validS_c w A xs.length c xs ((holds_old oA) w hw) rfl lA (by first | assumption | omega | (simp; omega))))) rfl rfl (kt_if rfl (fun c12 => ?_) (fun c12 => ?_))
  ·
    refine wl_v (ov_not rfl) rfl rfl rfl ?_
    refine wl_v (ov_move rfl) rfl rfl rfl ?_
    refine wl_go rfl rfl ?_
    refine wl_v (ov_move rfl) rfl rfl rfl ?_
    refine wl_go rfl rfl ?_
    refine wl_r (or_call (fv := []) (vs := [.slice A2 (ys.length) (c2)]) (cs := []) en60 rfl rfl (call_v (fun w hw => validS_c w A2 ys.length c2 ys ((holds_old oA2) w hw) rfl lA2 (by first | assumption | omega | (simp; omega))))) rfl rfl (kt_if rfl (fun c16 => ?_) (fun c16 => ?_))
    ·
      refine wl_go rfl rfl ?_
      refine wl_v (ov_not rfl) rfl rfl rfl ?_
      refine wl_v (ov_pick_f rfl rfl) rfl rfl rfl ?_
      refine wl_v (ov_move rfl) rfl rfl rfl ?_
      refine wl_go rfl rfl ?_
      refine wl_v (ov_move rfl) rfl rfl rfl ?_
      refine wl_go rfl rfl ?_
      refine wl_v (ov_len (sliceI_spec sI31) rfl) rfl rfl rfl ?_
      refine wl_go rfl rfl ?_
      refine wl_v (ov_move rfl) rfl rfl rfl ?_
      refine wl_go rfl rfl ?_
      refine wl_v (ov_len (sliceI_spec sI31) rfl) rfl rfl rfl ?_
      refine wl_go rfl rfl ?_
      refine wl_if (ov_neq rfl rfl) rfl rfl rfl (fun c24 => ?_) (fun c24 => ?_)
      ·
        have hv : relV (fun es => compl xs.length es (prs xs.length).length) xs ys = none := if_neg (fun h => c24 (by have := h.2.2.1; omega))
        refine wl_v (ov_pick_f rfl rfl) rfl rfl rfl ?_
        refine wl_v (ov_move rfl) rfl rfl rfl ?_
        refine wl_not rfl rfl rfl rfl rfl rfl ?_
        refine wl_not rfl rfl rfl rfl rfl rfl ?_
        refine wl_not rfl rfl rfl rfl rfl rfl ?_
        refine wl_v (ov_pick_t rfl rfl) rfl rfl rfl ?_
        refine wl_nil ?_
        refine ce_then ?_
        refine cw_true rfl ?_
        refine cw_seq ?_
        refine ct_none fE 43 2 ?_
        refine ct_none fE 43 2 ?_
        refine cw_region ?_
        refine wl_v (ov_build (is := []) (vs := []) (v := .agg #[.int .i64 (0), .slice none (0) (0)]) rfl rfl (fun _ => by kernel_rfl)) rfl rfl rfl ?_
        refine wl_v (ov_build (is := []) (vs := []) (v := .agg #[.int .i64 (0), .slice none (0) (0)]) rfl rfl (fun _ => by kernel_rfl)) rfl rfl rfl ?_
        refine wl_r0 (or_store_blk (vs := [.int .i64 (0), .slice none (0) (0)]) (cs' := [.int .i64 (0), .slice none (0) (0)]) (.tail (.tail (.tail .head))) tI25 rfl rfl rfl rfl (Nat.le_of_ble_eq_true rfl) rfl) rfl rfl (kn0 ?_)
        refine wl_r0 (or_store_blk (vs := [.int .i64 (0), .slice none (0) (0)]) (cs' := [.int .i64 (0), .slice none (0) (0)]) (.tail (.tail (.tail .head))) tI25 rfl rfl rfl rfl (Nat.le_of_ble_eq_true rfl) rfl) rfl rfl (kn0 ?_)
        refine wl_v (ov_assign rfl) rfl rfl rfl ?_
        refine wl_nil ?_
        refine ce_then ?_
        refine cw_ret ?_
        refine ce_then_ret ?_
        refine ce_results (v := .tuple #[.agg #[.int .i64 (0), .slice none (0) (0)], .agg #[.int .i64 (0), .slice none (0) (0)], .bool false]) (res3 rfl (rv_c rfl tI25 rfl (List.Mem.tail _ (List.Mem.head _))) (rv_c rfl tI25 rfl (List.Mem.head _)) (rv_t rfl)) (fun w' hw => ?_)
        exact ⟨none, 0, 0, none, 0, 0, ⟨by rw [hv]; exact Nat.le_refl _, by rw [hv]; exact Nat.le_refl _⟩, (by rw [hv] <;> rfl), ((.consE (show row 43 2 none (0) (0) (cells fE ([])) = row 43 2 none ((rel1 (relV (fun es => compl xs.length es (prs xs.length).length) xs ys)).length) (0) (cells fE (rel1 (relV (fun es => compl xs.length es (prs xs.length).length) xs ys))) by rw [hv] <;> rfl) (.tail (.tail (.tail .head))) (.consE (show row 43 2 none (0) (0) (cells fE ([])) = row 43 2 none ((rel2 (relV (fun es => compl xs.length es (prs xs.length).length) xs ys)).length) (0) (cells fE (rel2 (relV (fun es => compl xs.length es (prs xs.length).length) xs ys))) by rw [hv] <;> rfl) (.tail (.tail .head)) (.nil)) : Keep _ _).ss hw).to_new⟩
      ·
        refine wl_v (ov_pick_f rfl rfl) rfl rfl rfl ?_
        refine wl_v (ov_move rfl) rfl rfl rfl ?_
        refine wl_go rfl rfl ?_
        refine wl_v (ov_move rfl) rfl rfl rfl ?_
        refine wl_go rfl rfl ?_
        refine wl_v (ov_len (sliceI_spec sI31) rfl) rfl rfl rfl ?_
        refine wl_go rfl rfl ?_
        refine wl_if (ov_gtr rfl rfl) rfl rfl rfl (fun c29 => ?_) (fun c29 => ?_)
        ·
          have hv : relV (fun es => compl xs.length es (prs xs.length).length) xs ys = none := if_neg (fun h => by have := h.2.2.2; omega)
          refine wl_v (ov_pick_f rfl rfl) rfl rfl rfl ?_
          refine wl_nil ?_
          refine ce_then ?_
          refine cw_true rfl ?_
          refine cw_seq ?_
          refine ct_none fE 43 2 ?_
          refine ct_none fE 43 2 ?_
          refine cw_region ?_
          refine wl_v (ov_build (is := []) (vs := []) (v := .agg #[.int .i64 (0), .slice none (0) (0)]) rfl rfl (fun _ => by kernel_rfl)) rfl rfl rfl ?_
          refine wl_v (ov_build (is := []) (vs := []) (v := .agg #[.int .i64 (0), .slice none (0) (0)]) rfl rfl (fun _ => by kernel_rfl)) rfl rfl rfl ?_
          refine wl_r0 (or_store_blk (vs := [.int .i64 (0), .slice none (0) (0)]) (cs' := [.int .i64 (0), .slice none (0) (0)]) (.tail (.tail (.tail .head))) tI25 rfl rfl rfl rfl (Nat.le_of_ble_eq_true rfl) rfl) rfl rfl (kn0 ?_)
          refine wl_r0 (or_store_blk (vs := [.int .i64 (0), .slice none (0) (0)]) (cs' := [.int .i64 (0), .slice none (0) (0)]) (.tail (.tail (.tail .head))) tI25 rfl rfl rfl rfl (Nat.le_of_ble_eq_true rfl) rfl) rfl rfl (kn0 ?_)
          refine wl_v (ov_assign rfl) rfl rfl rfl ?_
          refine wl_nil ?_
          refine ce_then ?_
          refine cw_ret ?_
          refine ce_then_ret ?_
          refine ce_results (v := .tuple #[.agg #[.int .i64 (0), .slice none (0) (0)], .agg #[.int .i64 (0), .slice none (0) (0)], .bool false]) (res3 rfl (rv_c rfl tI25 rfl (List.Mem.tail _ (List.Mem.head _))) (rv_c rfl tI25 rfl (List.Mem.head _)) (rv_t rfl)) (fun w' hw => ?_)
          exact ⟨none, 0, 0, none, 0, 0, ⟨by rw [hv]; exact Nat.le_refl _, by rw [hv]; exact Nat.le_refl _⟩, (by rw [hv] <;> rfl), ((.consE (show row 43 2 none (0) (0) (cells fE ([])) = row 43 2 none ((rel1 (relV (fun es => compl xs.length es (prs xs.length).length) xs ys)).length) (0) (cells fE (rel1 (relV (fun es => compl xs.length es (prs xs.length).length) xs ys))) by rw [hv] <;> rfl) (.tail (.tail (.tail .head))) (.consE (show row 43 2 none (0) (0) (cells fE ([])) = row 43 2 none ((rel2 (relV (fun es => compl xs.length es (prs xs.length).length) xs ys)).length) (0) (cells fE (rel2 (relV (fun es => compl xs.length es (prs xs.length).length) xs ys))) by rw [hv] <;> rfl) (.tail (.tail .head)) (.nil)) : Keep _ _).ss hw).to_new⟩
        ·
          have hcond : Valid xs ∧ Valid ys ∧ xs.length = ys.length ∧ xs.length ≤ 5 := ⟨c12, c16, by omega, by omega⟩
          have h5 := hcond.2.2.2
          have hxy := hcond.2.2.1
          refine wl_v (ov_pick_f rfl rfl) rfl rfl rfl ?_
          refine wl_nil ?_
          refine ce_then ?_
          refine cw_false rfl ?_
          refine cw_skip ?_
          refine ce_then ?_
          refine cw_seq ?_
          refine cw_region ?_
          refine wl_v (ov_move rfl) rfl rfl rfl ?_
          refine wl_r (or_call (fv := []) (vs := [.slice A (xs.length) (c)]) (cs := []) en62 rfl rfl (call_x3 (fun w hw => realS_c w A xs.length c xs ((holds_old oA) w hw) rfl lA (by first | assumption | omega | (simp; omega)) (by omega)))) rfl rfl (kt3p rfl (fun A2_34 c2_34 hs_34 h_34 => ?_))
          refine ct_fact (nest_facts (List.Mem.tail _ (List.Mem.head _))) (fun hnf => ?_)
          have hgl : (gsOf xs.length hs_34).length = (allV xs).length := by rw [gsOf_length]; exact hnf.1
          have hal := allV_len xs
          refine wl_v (ov_assign rfl) rfl rfl rfl ?_
          refine wl_nil ?_
          refine ce_then ?_
          refine cw_seq ?_
          refine cw_seq ?_
          refine cw_region ?_
          refine wl_v (ov_assign rfl) rfl rfl rfl ?_
          refine wl_nil ?_
          refine ce_then ?_
          refine cw_block ?_
          refine cw_loop1 (fun (k : Nat) => [(1, .slice A2 (ys.length) (c2)), (4, elp (some ⟨g4, 0, none⟩) (0)), (5, elp (some ⟨g5, 0, none⟩) (0)), (7, .slice A2_34 ((allV xs).length) (c2_34)), (8, .int .i64 (((k : Nat) : Int)))]) (fun (k : Nat) => [row 25 2 A2_34 ((allV xs).length) (c2_34) (cells fG (gsOf xs.length hs_34)), nest 43 2 fE hs_34 (allV xs), blk g5 [.int .i64 (0), .slice none (0) (0)] 25, blk g4 [.int .i64 (0), .slice none (0) (0)] 25]) (fun (k : Nat) => k ≤ (allV xs).length ∧ ∀ j, j < k → relF (fun es => compl xs.length (es) (prs xs.length).length) ys ((allV xs).getD j []) = none) (fun (k : Nat) => (allV xs).length - k) 0 ⟨by omega, fun j hj => absurd hj (Nat.not_lt_zero _)⟩ (.cons rfl (.cons rfl (.cons rfl (.cons rfl (.cons (congrArg (fun z => some (Value.int .i64 z)) (show 0 = ((0 : Nat) : Int) by first | omega | rfl | (simp; done))) (.nil)))))) (.cons (.head) (.cons (.head) (.cons (.head) (.cons (.head) (.nil))))) ?_
          intro R0 k hk hR0
          obtain ⟨hk1, hk2⟩ := hk
          refine cw_seq ?_
          refine cw_seq ?_
          refine cw_region ?_
          refine wl_v (ov_move rfl) rfl rfl rfl ?_
          refine wl_v (ov_move rfl) rfl rfl rfl ?_
          refine wl_v (ov_len (sliceI_spec sI38) rfl) rfl rfl rfl ?_
          refine wl_if (ov_lss rfl rfl) rfl rfl rfl (fun c38 => ?_) (fun c38 => ?_)
          ·
            refine wl_nil ?_
            refine ce_then ?_
            refine cw_true rfl ?_
            refine cw_skip ?_
            refine ce_then ?_
            refine cw_seq ?_
            refine cw_block ?_
            refine cw_seq ?_
            refine cw_region ?_
            refine wl_v (ov_move rfl) rfl rfl rfl ?_
            refine wl_v (ov_move rfl) rfl rfl rfl ?_
            refine ct_fact (nest_facts (List.Mem.tail _ (List.Mem.head _))) (fun hnf44 => ?_)
            have hnl44 := hnf44.1
            refine wl_v (ov_index (k := k) (c := c2_34) sI38 tI25 rfl rfl (some_holds (q := k * 2) (holds_row (List.Mem.head _)) (by rw [cells_length fG_len]; have hlt : k < (gsOf xs.length hs_34).length := (by omega); omega)) (show k < (allV xs).length from (by omega))) rfl rfl rfl ?_
            refine wl_v (ov_loadAgg (vs := [.int .i64 (((xs.length : Nat) : Int)), .slice ((hs_34.getD k (none, 0, 0)).1) (((allV xs).getD k []).length) ((hs_34.getD k (none, 0, 0)).2.2)]) tI25 (holds_row (List.Mem.head _)) rfl (some_holds (q := k * 2) (holds_row (List.Mem.head _)) (by rw [cells_length fG_len]; have hlt : k < (gsOf xs.length hs_34).length := (by omega); omega)) (elem_fG hnf44 (show k < (allV xs).length from (by omega))) rfl) rfl rfl rfl ?_
            refine wl_r (or_call (fv := []) (vs := [.agg #[.int .i64 (((xs.length : Nat) : Int)), .slice ((hs_34.getD k (none, 0, 0)).1) (((allV xs).getD k []).length) ((hs_34.getD k (none, 0, 0)).2.2)]]) (cs := []) en85 rfl rfl (call_x2 (fun w hw => complementS_c w xs.length ((hs_34.getD k (none, 0, 0)).1) (((allV xs).getD k []).length) ((hs_34.getD k (none, 0, 0)).2.2) ((allV xs).getD k []) ((holds_nest (List.Mem.tail _ (List.Mem.head _)) (show k < (allV xs).length from (by omega))) w hw) rfl (hnf44.2 k (show k < (allV xs).length from (by omega))).2 (by have := (allV_gr (xs := xs) (i := k) (by omega)).len21 (by omega); omega) (by omega)))) rfl rfl (kt2p rfl (fun A2_46 c2_46 h_46 => ?_))
            refine wl_v (ov_move rfl) rfl rfl rfl ?_
            refine wl_r (or_call (fv := []) (vs := [.agg #[.int .i64 (((xs.length : Nat) : Int)), .slice A2_46 ((compl xs.length ((allV xs).getD k []) (prs xs.length).length).length) (c2_46)], .slice A2 (ys.length) (c2)]) (cs := []) en73 rfl rfl (call_x4 (fun w hw => factorOf_c w xs.length A2_46 ((compl xs.length ((allV xs).getD k []) (prs xs.length).length).length) c2_46 (compl xs.length ((allV xs).getD k []) (prs xs.length).length) A2 ys.length c2 ys ((holds_row (List.Mem.head _)) w hw) rfl h_46 ((holds_old oA2) w hw) rfl lA2 (gr_of_sublist (compl_sub _ _ _)) ⟨by omega, by omega⟩ (fun x hx => by have := c16.2 x hx; have := c16.1; omega)))) rfl rfl (kt4p rfl (fun N2_48 A2_48 k2_48 c2_48 h_48 => ?_))
            refine wl_v (ov_move rfl) rfl rfl rfl ?_
            refine wl_v (ov_extract rfl rfl) rfl rfl rfl ?_
            refine wl_v (ov_extract rfl rfl) rfl rfl rfl ?_
            refine wl_r (or_alloc tI25 rfl) rfl rfl (kt1 rfl (fun g9 => ?_))
            refine wl_r0 (or_store_blk (vs := [.int .i64 (N2_48), .slice A2_48 ((facV (compl xs.length ((allV xs).getD k []) (prs xs.length).length) ys).1.length) (k2_48)]) (cs' := [.int .i64 (N2_48), .slice A2_48 ((facV (compl xs.length ((allV xs).getD k []) (prs xs.length).length) ys).1.length) (k2_48)]) (.head) tI25 rfl rfl rfl rfl (Nat.le_of_ble_eq_true rfl) rfl) rfl rfl (kn0 ?_)
            refine wl_v (ov_assign rfl) rfl rfl rfl ?_
            refine wl_nil ?_
            refine ce_then ?_
            refine cw_seq ?_
            refine cw_region ?_
            refine wl_v (ov_move rfl) rfl rfl rfl ?_
            refine wl_nil ?_
            refine ce_then ?_
            refine ct_bool (i := 51) rfl (fun b51 => ?_) (fun b51 => ?_)
            ·
              have hfn : facN xs.length (facV (compl xs.length (((allV xs).getD k [])) (prs xs.length).length) ys) = (xs.length : Int) := if_pos b51
              have hv : relV (fun es => compl xs.length es (prs xs.length).length) xs ys = some ((allV xs).getD k [], (facV (compl xs.length (((allV xs).getD k [])) (prs xs.length).length) ys).1) := (if_pos hcond).trans (found_at [] (i := k) (by omega) (if_pos b51) hk2)
              refine cw_true rfl ?_
              refine cw_seq ?_
              refine cw_draw mixO [] (.cons (.head) (.cons (.head) (.cons (.head) (.cons (.head) (.cons (.head) (.nil)))))) rfl ?_
              refine wg_takep (i := 0) rfl (ov_move rfl) rfl rfl rfl (by kernel_rfl) (by kernel_rfl) (by kernel_rfl) rfl ?_
              refine wg_takep (i := 1) rfl (ov_move rfl) rfl rfl rfl (by kernel_rfl) (by kernel_rfl) (by kernel_rfl) rfl ?_
              refine stg_fact (nest_facts (List.Mem.tail _ (List.Mem.tail _ (List.Mem.tail _ (List.Mem.tail _ (List.Mem.head _)))))) (fun hnf54 => ?_)
              have hnl54 := hnf54.1
              refine wg_take (i := 2) rfl (ov_index (k := k) (c := c2_34) sI38 tI25 rfl rfl (some_holds (q := k * 2) (holds_row (List.Mem.tail _ (List.Mem.tail _ (List.Mem.tail _ (List.Mem.head _))))) (by rw [cells_length fG_len]; have hlt : k < (gsOf xs.length hs_34).length := (by omega); omega)) (show k < (allV xs).length from (by omega))) rfl rfl rfl (by kernel_rfl) (by kernel_rfl) (by kernel_rfl) (by kernel_rfl) ?_
              refine wg_take (i := 3) rfl (ov_loadAgg (vs := [.int .i64 (((xs.length : Nat) : Int)), .slice ((hs_34.getD k (none, 0, 0)).1) (((allV xs).getD k []).length) ((hs_34.getD k (none, 0, 0)).2.2)]) tI25 (holds_row (List.Mem.tail _ (List.Mem.tail _ (List.Mem.tail _ (List.Mem.head _))))) rfl (some_holds (q := k * 2) (holds_row (List.Mem.tail _ (List.Mem.tail _ (List.Mem.tail _ (List.Mem.head _))))) (by rw [cells_length fG_len]; have hlt : k < (gsOf xs.length hs_34).length := (by omega); omega)) (elem_fG hnf54 (show k < (allV xs).length from (by omega))) rfl) rfl rfl rfl (by kernel_rfl) (by kernel_rfl) (by kernel_rfl) (by kernel_rfl) ?_
              refine wg_take (i := 4) rfl (ov_loadAgg (vs := [.int .i64 (N2_48), .slice A2_48 ((facV (compl xs.length ((allV xs).getD k []) (prs xs.length).length) ys).1.length) (k2_48)]) tI25 (holds_blk (List.Mem.head _)) rfl some_lit rfl rfl) rfl rfl rfl (by kernel_rfl) (by kernel_rfl) (by kernel_rfl) (by kernel_rfl) ?_
              refine wg_one (i := 5) (by kernel_rfl) ?_
              refine go_r0 rfl rfl rfl rfl (or_store_blk (vs := [.int .i64 (((xs.length : Nat) : Int)), .slice ((hs_34.getD k (none, 0, 0)).1) (((allV xs).getD k []).length) ((hs_34.getD k (none, 0, 0)).2.2)]) (cs' := [.int .i64 (((xs.length : Nat) : Int)), .slice ((hs_34.getD k (none, 0, 0)).1) (((allV xs).getD k []).length) ((hs_34.getD k (none, 0, 0)).2.2)]) (.tail (.tail (.tail (.tail (.tail (.tail .head)))))) tI25 rfl rfl rfl rfl (Nat.le_of_ble_eq_true rfl) rfl) (kn0 ?_)
              refine gk (.cons (.tail .head) (.cons (.tail .head) (.cons (.tail .head) (.cons (.tail .head) (.cons (.tail .head) (.nil)))))) ?_
              refine wg_one (i := 6) (by kernel_rfl) ?_
              refine go_r0 rfl rfl rfl rfl (or_store_blk (vs := [.int .i64 (N2_48), .slice A2_48 ((facV (compl xs.length ((allV xs).getD k []) (prs xs.length).length) ys).1.length) (k2_48)]) (cs' := [.int .i64 (N2_48), .slice A2_48 ((facV (compl xs.length ((allV xs).getD k []) (prs xs.length).length) ys).1.length) (k2_48)]) (.tail (.tail (.tail (.tail (.tail (.tail .head)))))) tI25 rfl rfl rfl rfl (Nat.le_of_ble_eq_true rfl) rfl) (kn0 ?_)
              refine gk (.cons (.tail (.tail .head)) (.cons (.tail (.tail .head)) (.cons (.tail (.tail .head)) (.cons (.tail (.tail .head)) (.cons (.tail (.tail .head)) (.nil)))))) ?_
              refine wg_takep (i := 7) rfl (ov_assign rfl) rfl rfl rfl (by kernel_rfl) (by kernel_rfl) (by kernel_rfl) rfl ?_
              refine wg_done (by kernel_rfl) ?_
              refine ce_then ?_
              refine cw_ret ?_
              refine ce_block_ret ?_
              refine ce_then_ret ?_
              refine ce_then_ret ?_
              refine ce_block_ret ?_
              refine ce_then_ret ?_
              refine ct_pull (i := k) (.cons (.tail (.tail (.tail (.tail (.tail (.tail .head)))))) (.cons (.head) (.cons (.head) (.cons (.head) (.cons (.head) (.cons (.head) (.cons (.head) (.nil)))))))) (by omega) (fun cp => ?_)
              refine ce_results (v := .tuple #[.agg #[.int .i64 (((xs.length : Nat) : Int)), .slice ((hs_34.getD k (none, 0, 0)).1) (((allV xs).getD k []).length) ((hs_34.getD k (none, 0, 0)).2.2)], .agg #[.int .i64 (N2_48), .slice A2_48 ((facV (compl xs.length ((allV xs).getD k []) (prs xs.length).length) ys).1.length) (k2_48)], .bool true]) (res3 rfl (rv_c rfl tI25 rfl (List.Mem.tail _ (List.Mem.tail _ (List.Mem.head _)))) (rv_c rfl tI25 rfl (List.Mem.tail _ (List.Mem.head _))) (rv_t rfl)) (fun w' hw => ?_)
              exact ⟨(hs_34.getD k (none, 0, 0)).1, (hs_34.getD k (none, 0, 0)).2.2, cp, A2_48, k2_48, c2_48, ⟨by rw [hv]; exact (hnf.2 k (by omega)).2, by rw [hv]; exact h_48.1⟩, (by rw [hv, h_48.2, hfn] <;> rfl), ((.consE (show row 43 2 ((hs_34.getD k (none, 0, 0)).1) (((allV xs).getD k []).length) (cp) (cells fE ((allV xs).getD k [])) = row 43 2 ((hs_34.getD k (none, 0, 0)).1) ((rel1 (relV (fun es => compl xs.length es (prs xs.length).length) xs ys)).length) (cp) (cells fE (rel1 (relV (fun es => compl xs.length es (prs xs.length).length) xs ys))) by rw [hv] <;> rfl) (.head) (.consE (show row 43 2 A2_48 ((facV (compl xs.length ((allV xs).getD k []) (prs xs.length).length) ys).1.length) (c2_48) (cells fE ((facV (compl xs.length ((allV xs).getD k []) (prs xs.length).length) ys).1)) = row 43 2 A2_48 ((rel2 (relV (fun es => compl xs.length es (prs xs.length).length) xs ys)).length) (c2_48) (cells fE (rel2 (relV (fun es => compl xs.length es (prs xs.length).length) xs ys))) by rw [hv] <;> rfl) (.tail (.tail (.tail .head))) (.nil)) : Keep _ _).ss hw).to_new⟩
            ·
              refine cw_false rfl ?_
              refine cw_skip ?_
              refine ce_block ?_
              refine ce_then ?_
              refine cw_region ?_
              refine wl_v (ov_move rfl) rfl rfl rfl ?_
              refine wl_v (ov_add (r := ((k + 1 : Nat) : Int)) rfl rfl rfl (by omega)) rfl rfl rfl ?_
              refine wl_v (ov_assign rfl) rfl rfl rfl ?_
              refine wl_nil ?_
              exact fun ac_ w_ hs_ => hR0 (k + 1) ⟨by omega, fun j hj => by rcases Nat.lt_succ_iff_lt_or_eq.1 hj with h | rfl; exact hk2 j h; exact if_neg (by rw [b51]; decide)⟩ (by omega) ac_ w_ (hs_.weaken (.cons rfl (.cons rfl (.cons rfl (.cons rfl (.cons rfl (.nil)))))) (.cons (.tail (.tail (.tail .head))) (.cons (.tail (.tail (.tail .head))) (.cons (.tail (.tail (.tail .head))) (.cons (.tail (.tail (.tail .head))) (.nil))))))
          ·
            have hv : relV (fun es => compl xs.length es (prs xs.length).length) xs ys = none := (if_pos hcond).trans (found_no [] (fun j hj => hk2 j (by omega)))
            refine wl_nil ?_
            refine ce_then ?_
            refine cw_false rfl ?_
            refine cw_exit ?_
            refine ce_then_exit ?_
            refine ce_then_exit ?_
            refine ce_hit ?_
            refine ce_then ?_
            refine cw_seq ?_
            refine ct_none fE 43 2 ?_
            refine ct_none fE 43 2 ?_
            refine cw_region ?_
            refine wl_v (ov_build (is := []) (vs := []) (v := .agg #[.int .i64 (0), .slice none (0) (0)]) rfl rfl (fun _ => by kernel_rfl)) rfl rfl rfl ?_
            refine wl_v (ov_build (is := []) (vs := []) (v := .agg #[.int .i64 (0), .slice none (0) (0)]) rfl rfl (fun _ => by kernel_rfl)) rfl rfl rfl ?_
            refine wl_r0 (or_store_blk (vs := [.int .i64 (0), .slice none (0) (0)]) (cs' := [.int .i64 (0), .slice none (0) (0)]) (.tail (.tail (.tail (.tail (.tail .head))))) tI25 rfl rfl rfl rfl (Nat.le_of_ble_eq_true rfl) rfl) rfl rfl (kn0 ?_)
            refine wl_r0 (or_store_blk (vs := [.int .i64 (0), .slice none (0) (0)]) (cs' := [.int .i64 (0), .slice none (0) (0)]) (.tail (.tail (.tail (.tail (.tail .head))))) tI25 rfl rfl rfl rfl (Nat.le_of_ble_eq_true rfl) rfl) rfl rfl (kn0 ?_)
            refine wl_v (ov_assign rfl) rfl rfl rfl ?_
            refine wl_nil ?_
            refine ce_then ?_
            refine cw_ret ?_
            refine ce_results (v := .tuple #[.agg #[.int .i64 (0), .slice none (0) (0)], .agg #[.int .i64 (0), .slice none (0) (0)], .bool false]) (res3 rfl (rv_c rfl tI25 rfl (List.Mem.tail _ (List.Mem.head _))) (rv_c rfl tI25 rfl (List.Mem.head _)) (rv_t rfl)) (fun w' hw => ?_)
            exact ⟨none, 0, 0, none, 0, 0, ⟨by rw [hv]; exact Nat.le_refl _, by rw [hv]; exact Nat.le_refl _⟩, (by rw [hv] <;> rfl), ((.consE (show row 43 2 none (0) (0) (cells fE ([])) = row 43 2 none ((rel1 (relV (fun es => compl xs.length es (prs xs.length).length) xs ys)).length) (0) (cells fE (rel1 (relV (fun es => compl xs.length es (prs xs.length).length) xs ys))) by rw [hv] <;> rfl) (.tail (.tail (.tail .head))) (.consE (show row 43 2 none (0) (0) (cells fE ([])) = row 43 2 none ((rel2 (relV (fun es => compl xs.length es (prs xs.length).length) xs ys)).length) (0) (cells fE (rel2 (relV (fun es => compl xs.length es (prs xs.length).length) xs ys))) by rw [hv] <;> rfl) (.tail (.tail .head)) (.nil)) : Keep _ _).ss hw).to_new⟩
    ·
      have hv : relV (fun es => compl xs.length es (prs xs.length).length) xs ys = none := if_neg (fun h => c16 h.2.1)
      refine wl_go rfl rfl ?_
      refine wl_v (ov_not rfl) rfl rfl rfl ?_
      refine wl_v (ov_pick_f rfl rfl) rfl rfl rfl ?_
      refine wl_v (ov_move rfl) rfl rfl rfl ?_
      refine wl_not rfl rfl rfl rfl rfl rfl ?_
      refine wl_not rfl rfl rfl rfl rfl rfl ?_
      refine wl_not rfl rfl rfl rfl rfl rfl ?_
      refine wl_not rfl rfl rfl rfl rfl rfl ?_
      refine wl_not rfl rfl rfl rfl rfl rfl ?_
      refine wl_v (ov_pick_t rfl rfl) rfl rfl rfl ?_
      refine wl_v (ov_move rfl) rfl rfl rfl ?_
      refine wl_not rfl rfl rfl rfl rfl rfl ?_
      refine wl_not rfl rfl rfl rfl rfl rfl ?_
      refine wl_not rfl rfl rfl rfl rfl rfl ?_
      refine wl_v (ov_pick_t rfl rfl) rfl rfl rfl ?_
      refine wl_nil ?_
      refine ce_then ?_
      refine cw_true rfl ?_
      refine cw_seq ?_
      refine ct_none fE 43 2 ?_
      refine ct_none fE 43 2 ?_
      refine cw_region ?_
      refine wl_v (ov_build (is := []) (vs := []) (v := .agg #[.int .i64 (0), .slice none (0) (0)]) rfl rfl (fun _ => by kernel_rfl)) rfl rfl rfl ?_
      refine wl_v (ov_build (is := []) (vs := []) (v := .agg #[.int .i64 (0), .slice none (0) (0)]) rfl rfl (fun _ => by kernel_rfl)) rfl rfl rfl ?_
      refine wl_r0 (or_store_blk (vs := [.int .i64 (0), .slice none (0) (0)]) (cs' := [.int .i64 (0), .slice none (0) (0)]) (.tail (.tail (.tail .head))) tI25 rfl rfl rfl rfl (Nat.le_of_ble_eq_true rfl) rfl) rfl rfl (kn0 ?_)
      refine wl_r0 (or_store_blk (vs := [.int .i64 (0), .slice none (0) (0)]) (cs' := [.int .i64 (0), .slice none (0) (0)]) (.tail (.tail (.tail .head))) tI25 rfl rfl rfl rfl (Nat.le_of_ble_eq_true rfl) rfl) rfl rfl (kn0 ?_)
      refine wl_v (ov_assign rfl) rfl rfl rfl ?_
      refine wl_nil ?_
      refine ce_then ?_
      refine cw_ret ?_
      refine ce_then_ret ?_
      refine ce_results (v := .tuple #[.agg #[.int .i64 (0), .slice none (0) (0)], .agg #[.int .i64 (0), .slice none (0) (0)], .bool false]) (res3 rfl (rv_c rfl tI25 rfl (List.Mem.tail _ (List.Mem.head _))) (rv_c rfl tI25 rfl (List.Mem.head _)) (rv_t rfl)) (fun w' hw => ?_)
      exact ⟨none, 0, 0, none, 0, 0, ⟨by rw [hv]; exact Nat.le_refl _, by rw [hv]; exact Nat.le_refl _⟩, (by rw [hv] <;> rfl), ((.consE (show row 43 2 none (0) (0) (cells fE ([])) = row 43 2 none ((rel1 (relV (fun es => compl xs.length es (prs xs.length).length) xs ys)).length) (0) (cells fE (rel1 (relV (fun es => compl xs.length es (prs xs.length).length) xs ys))) by rw [hv] <;> rfl) (.tail (.tail (.tail .head))) (.consE (show row 43 2 none (0) (0) (cells fE ([])) = row 43 2 none ((rel2 (relV (fun es => compl xs.length es (prs xs.length).length) xs ys)).length) (0) (cells fE (rel2 (relV (fun es => compl xs.length es (prs xs.length).length) xs ys))) by rw [hv] <;> rfl) (.tail (.tail .head)) (.nil)) : Keep _ _).ss hw).to_new⟩
  ·
    have hv : relV (fun es => compl xs.length es (prs xs.length).length) xs ys = none := if_neg (fun h => c12 h.1)
    refine wl_v (ov_not rfl) rfl rfl rfl ?_
    refine wl_v (ov_move rfl) rfl rfl rfl ?_
    refine wl_not rfl rfl rfl rfl rfl rfl ?_
    refine wl_not rfl rfl rfl rfl rfl rfl ?_
    refine wl_not rfl rfl rfl rfl rfl rfl ?_
    refine wl_v (ov_pick_t rfl rfl) rfl rfl rfl ?_
    refine wl_v (ov_move rfl) rfl rfl rfl ?_
    refine wl_not rfl rfl rfl rfl rfl rfl ?_
    refine wl_not rfl rfl rfl rfl rfl rfl ?_
    refine wl_not rfl rfl rfl rfl rfl rfl ?_
    refine wl_not rfl rfl rfl rfl rfl rfl ?_
    refine wl_not rfl rfl rfl rfl rfl rfl ?_
    refine wl_v (ov_pick_t rfl rfl) rfl rfl rfl ?_
    refine wl_v (ov_move rfl) rfl rfl rfl ?_
    refine wl_not rfl rfl rfl rfl rfl rfl ?_
    refine wl_not rfl rfl rfl rfl rfl rfl ?_
    refine wl_not rfl rfl rfl rfl rfl rfl ?_
    refine wl_v (ov_pick_t rfl rfl) rfl rfl rfl ?_
    refine wl_nil ?_
    refine ce_then ?_
    refine cw_true rfl ?_
    refine cw_seq ?_
    refine ct_none fE 43 2 ?_
    refine ct_none fE 43 2 ?_
    refine cw_region ?_
    refine wl_v (ov_build (is := []) (vs := []) (v := .agg #[.int .i64 (0), .slice none (0) (0)]) rfl rfl (fun _ => by kernel_rfl)) rfl rfl rfl ?_
    refine wl_v (ov_build (is := []) (vs := []) (v := .agg #[.int .i64 (0), .slice none (0) (0)]) rfl rfl (fun _ => by kernel_rfl)) rfl rfl rfl ?_
    refine wl_r0 (or_store_blk (vs := [.int .i64 (0), .slice none (0) (0)]) (cs' := [.int .i64 (0), .slice none (0) (0)]) (.tail (.tail (.tail .head))) tI25 rfl rfl rfl rfl (Nat.le_of_ble_eq_true rfl) rfl) rfl rfl (kn0 ?_)
    refine wl_r0 (or_store_blk (vs := [.int .i64 (0), .slice none (0) (0)]) (cs' := [.int .i64 (0), .slice none (0) (0)]) (.tail (.tail (.tail .head))) tI25 rfl rfl rfl rfl (Nat.le_of_ble_eq_true rfl) rfl) rfl rfl (kn0 ?_)
    refine wl_v (ov_assign rfl) rfl rfl rfl ?_
    refine wl_nil ?_
    refine ce_then ?_
    refine cw_ret ?_
    refine ce_then_ret ?_
    refine ce_results (v := .tuple #[.agg #[.int .i64 (0), .slice none (0) (0)], .agg #[.int .i64 (0), .slice none (0) (0)], .bool false]) (res3 rfl (rv_c rfl tI25 rfl (List.Mem.tail _ (List.Mem.head _))) (rv_c rfl tI25 rfl (List.Mem.head _)) (rv_t rfl)) (fun w' hw => ?_)
    exact ⟨none, 0, 0, none, 0, 0, ⟨by rw [hv]; exact Nat.le_refl _, by rw [hv]; exact Nat.le_refl _⟩, (by rw [hv] <;> rfl), ((.consE (show row 43 2 none (0) (0) (cells fE ([])) = row 43 2 none ((rel1 (relV (fun es => compl xs.length es (prs xs.length).length) xs ys)).length) (0) (cells fE (rel1 (relV (fun es => compl xs.length es (prs xs.length).length) xs ys))) by rw [hv] <;> rfl) (.tail (.tail (.tail .head))) (.consE (show row 43 2 none (0) (0) (cells fE ([])) = row 43 2 none ((rel2 (relV (fun es => compl xs.length es (prs xs.length).length) xs ys)).length) (0) (cells fE (rel2 (relV (fun es => compl xs.length es (prs xs.length).length) xs ys))) by rw [hv] <;> rfl) (.tail (.tail .head)) (.nil)) : Keep _ _).ss hw).to_new⟩
end Go.Proofs.Ytfjgfocjogfodaa.W22
