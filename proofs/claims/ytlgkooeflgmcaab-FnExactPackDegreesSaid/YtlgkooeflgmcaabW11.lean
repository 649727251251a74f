/- Walks of functions of the given program: each returns what its Lean function says and leaves the memory that was there as it was. Conditions: those of each theorem. -/
import Derived.Test.YtlgkooeflgmcaabSz
import Derived.Test.YtlgkooeflgmcaabProg
import Derived.Test.YtlgkooeflgmcaabPl
import Derived.Test.YtlgkooeflgmcaabPo
import Derived.Test.YtlgkooeflgmcaabPd
import Derived.Test.YtlgkooeflgmcaabPe
import Derived.Test.YtlgkooeflgmcaabPh
import Derived.Test.YtlgkooeflgmcaabPm
import Derived.Test.YtlgkooeflgmcaabPc
import Derived.Test.YtlgkooeflgmcaabPs
import Derived.Test.YtlgkooeflgmcaabPt
import Derived.Test.YtlgkooeflgmcaabT
import Derived.Test.YtlgkooeflgmcaabW5
import Derived.KernelRfl
namespace Go.Proofs.Ytlgkooeflgmcaab.W11
open Go.Sx Go.RowKit Go.Proofs.Ytlgkooeflgmcaab.T Go.Proofs.Ytlgkooeflgmcaab.W5
open Go.Plain
set_option linter.unusedVariables false
set_option maxRecDepth 100000 in
theorem pairsS_c (w : World) (n : Nat) (hn : n ≤ 10) : Calls Try.prog 82 #[.int .i64 (((n : Nat) : Int))] w (Ret fun rv w' => ∃ A2 c2, ((prs n).length ≤ c2) ∧ rv = .slice A2 ((prs n).length) (c2) ∧ New w w' [row 70 2 A2 ((prs n).length) (c2) (cells fE (prs n))]) := by
  refine fn_enter (args := [.int .i64 (((n : Nat) : Int))]) Try.func82 rfl Try.ntmps82 rfl (SS.start w) ?_
  refine cw_seq ?_
  refine cw_region ?_
  refine wl_v (ov_assign rfl) rfl rfl rfl ?_
  refine wl_nil ?_
  refine ce_then ?_
  refine cw_seq ?_
  refine cw_region ?_
  refine wl_r (or_buildSlice (e := 70) (size := 2) (is := []) (vs := []) (cs := cells fE ([])) rfl rfl rfl (by decide) (fun _ => by kernel_rfl)) rfl rfl (kt1 rfl (fun g6 => ?_))
  refine wl_v (ov_assign rfl) rfl rfl rfl ?_
  refine wl_nil ?_
  refine ce_then ?_
  refine cw_seq ?_
  refine cw_seq ?_
  refine cw_region ?_
  refine wl_v (ov_assign rfl) rfl rfl rfl ?_
  refine wl_nil ?_
  refine ce_then ?_
  refine cw_block ?_
  refine cw_loop3 (fun (a : Nat) (A2 : Option Addr) (c2 : Nat) => [(0, .int .i64 (((n : Nat) : Int))), (2, .slice none (0) (0)), (3, .slice A2 ((prsTo n a).length) (c2)), (4, .int .i64 (((a : Nat) : Int)))]) (fun (a : Nat) (A2 : Option Addr) (c2 : Nat) => [row 70 2 A2 ((prsTo n a).length) (c2) (cells fE (prsTo n a))]) (fun (a : Nat) (A2 : Option Addr) (c2 : Nat) => a ≤ n ∧ (prsTo n a).length ≤ c2) (fun (a : Nat) (A2 : Option Addr) (c2 : Nat) => n - a) 0 (some ⟨g6, 0, none⟩) 0 ⟨by omega, Nat.le_refl _⟩ (.cons rfl (.cons rfl (.cons rfl (.cons (congrArg (fun z => some (Value.int .i64 z)) (show 0 = ((0 : Nat) : Int) by first | omega | rfl | (simp; done))) (.nil))))) (.consE (show row 70 2 (some ⟨g6, 0, none⟩) (0) (0) (cells fE ([])) = row 70 2 (some ⟨g6, 0, none⟩) ((prsTo n 0).length) (0) (cells fE (prsTo n 0)) by rfl) (.head) (.nil)) ?_
  intro R0 a A2 c2 hk hR0
  obtain ⟨hk1, hk2⟩ := hk
  have hpl := prsTo_len n hn a hk1
  refine cw_seq ?_
  refine cw_seq ?_
  refine cw_region ?_
  refine wl_v (ov_move rfl) rfl rfl rfl ?_
  refine wl_v (ov_move rfl) rfl rfl rfl ?_
  refine wl_if (ov_lss rfl rfl) rfl rfl rfl (fun c9 => ?_) (fun c9 => ?_)
  ·
    refine wl_nil ?_
    refine ce_then ?_
    refine cw_true rfl ?_
    refine cw_skip ?_
    refine ce_then ?_
    refine cw_seq ?_
    refine cw_block ?_
    refine cw_seq ?_
    refine cw_region ?_
    refine wl_v (ov_move rfl) rfl rfl rfl ?_
    refine wl_v (ov_add (r := ((a + 1 : Nat) : Int)) rfl rfl rfl (by omega)) rfl rfl rfl ?_
    refine wl_v (ov_assign rfl) rfl rfl rfl ?_
    refine wl_nil ?_
    refine ce_then ?_
    refine cw_block ?_
    refine cw_loop3 (fun (k : Nat) (A3 : Option Addr) (c3 : Nat) => [(0, .int .i64 (((n : Nat) : Int))), (2, .slice none (0) (0)), (4, .int .i64 (((a : Nat) : Int))), (3, .slice A3 ((prsTo n a ++ prow a k).length) (c3)), (5, .int .i64 (((a + 1 + k : Nat) : Int)))]) (fun (k : Nat) (A3 : Option Addr) (c3 : Nat) => [row 70 2 A3 ((prsTo n a ++ prow a k).length) (c3) (cells fE (prsTo n a ++ prow a k))]) (fun (k : Nat) (A3 : Option Addr) (c3 : Nat) => k ≤ n - (a + 1) ∧ (prsTo n a ++ prow a k).length ≤ c3) (fun (k : Nat) (A3 : Option Addr) (c3 : Nat) => n - (a + 1) - k) 0 A2 c2 ⟨by omega, by simpa [prow] using hk2⟩ (.cons rfl (.cons rfl (.cons rfl (.cons (congrArg (fun z => some (Value.slice A2 z c2)) (show ((prsTo n a).length) = ((prsTo n a ++ prow a 0).length) from (by simp [prow]))) (.cons (congrArg (fun z => some (Value.int .i64 z)) (show ((a + 1 : Nat) : Int) = ((a + 1 + 0 : Nat) : Int) by first | omega | rfl | (simp; done))) (.nil)))))) (.consE (show row 70 2 A2 ((prsTo n a).length) (c2) (cells fE (prsTo n a)) = row 70 2 A2 ((prsTo n a ++ prow a 0).length) (c2) (cells fE (prsTo n a ++ prow a 0)) by simp [prow]) (.head) (.nil)) ?_
    intro R1 k A3 c3 hk1 hR1
    obtain ⟨hj1, hj2⟩ := hk1
    have hal : (prsTo n a ++ prow a k).length = (prsTo n a).length + k := by rw [List.length_append, prow_length]
    refine cw_seq ?_
    refine cw_seq ?_
    refine cw_region ?_
    refine wl_v (ov_move rfl) rfl rfl rfl ?_
    refine wl_v (ov_move rfl) rfl rfl rfl ?_
    refine wl_if (ov_lss rfl rfl) rfl rfl rfl (fun c16 => ?_) (fun c16 => ?_)
    ·
      refine wl_nil ?_
      refine ce_then ?_
      refine cw_true rfl ?_
      refine cw_skip ?_
      refine ce_then ?_
      refine cw_seq ?_
      refine cw_block ?_
      refine cw_region ?_
      refine wl_v (ov_move rfl) rfl rfl rfl ?_
      refine wl_v (ov_move rfl) rfl rfl rfl ?_
      refine wl_v (ov_move rfl) rfl rfl rfl ?_
      refine wl_v (ov_build (is := [0, 1]) (vs := [.int .i64 (((a : Nat) : Int)), .int .i64 (((a + 1 + k : Nat) : Int))]) (v := .agg #[.int .i64 (((a : Nat) : Int)), .int .i64 (((a + 1 + k : Nat) : Int))]) rfl rfl (fun _ => by kernel_rfl)) rfl rfl rfl ?_
      refine wl_r (or_buildSlice (e := 70) (size := 2) (is := [0]) (vs := [.agg #[.int .i64 (((a : Nat) : Int)), .int .i64 (((a + 1 + k : Nat) : Int))]]) (cs := cells fE ([(((a : Nat) : Int), ((a + 1 + k : Nat) : Int))])) rfl rfl rfl (by decide) (fun _ => by kernel_rfl)) rfl rfl (kt1 rfl (fun g23 => ?_))
      refine wl_r (or_append (c2 := 1) sI28 tI70 rfl (by decide) rfl rfl (.tail .head) (holds_row (List.Mem.head _)) (by rw [cells_length fE_len]; try simp) (one_cells fE_one _) cells_append (by omega) (by omega)) rfl rfl (kt2p rfl (fun A24 c24 h24 => ?_))
      refine wl_v (ov_assign rfl) rfl rfl rfl ?_
      refine wl_nil ?_
      refine ce_block ?_
      refine ce_then ?_
      refine cw_region ?_
      refine wl_v (ov_move rfl) rfl rfl rfl ?_
      refine wl_v (ov_add (r := (((a + 1 + k) + 1 : Nat) : Int)) rfl rfl rfl (by omega)) rfl rfl rfl ?_
      refine wl_v (ov_assign rfl) rfl rfl rfl ?_
      refine wl_nil ?_
      exact fun ac_ w_ hs_ => hR1 (k + 1) A24 c24 ⟨by omega, by rw [prow_succ, ← List.append_assoc, List.length_append]; exact h24⟩ (by omega) ac_ w_ (hs_.weaken (.cons rfl (.cons rfl (.cons rfl (.cons (congrArg (fun z => some (Value.slice A24 z c24)) (show (((prsTo n a ++ prow a k).length) + 1) = ((prsTo n a ++ prow a (k + 1)).length) from (by rw [prow_succ, ← List.append_assoc]; simp [Nat.add_assoc]))) (.cons rfl (.nil)))))) (.consE (show row 70 2 A24 (((prsTo n a ++ prow a k).length) + 1) (c24) (cells fE ((prsTo n a ++ prow a k) ++ ([(((a : Nat) : Int), ((a + 1 + k : Nat) : Int))]))) = row 70 2 A24 ((prsTo n a ++ prow a (k + 1)).length) (c24) (cells fE (prsTo n a ++ prow a (k + 1))) by rw [prow_succ, ← List.append_assoc]; exact row_eq (by simp [Nat.add_assoc]) rfl) (.head) (.nil)))
    ·
      refine wl_nil ?_
      refine ce_then ?_
      refine cw_false rfl ?_
      refine cw_exit ?_
      refine ce_then_exit ?_
      refine ce_then_exit ?_
      refine ce_hit ?_
      refine ce_block ?_
      refine ce_then ?_
      refine cw_region ?_
      refine wl_v (ov_move rfl) rfl rfl rfl ?_
      refine wl_v (ov_add (r := ((a + 1 : Nat) : Int)) rfl rfl rfl (by omega)) rfl rfl rfl ?_
      refine wl_v (ov_assign rfl) rfl rfl rfl ?_
      refine wl_nil ?_
      exact fun ac_ w_ hs_ => hR0 (a + 1) A3 c3 ⟨by omega, by rw [prsTo_succ, show n - (a + 1) = k from by omega]; exact hj2⟩ (by omega) ac_ w_ (hs_.weaken (.cons rfl (.cons rfl (.cons (congrArg (fun z => some (Value.slice A3 z c3)) (show ((prsTo n a ++ prow a k).length) = ((prsTo n (a + 1)).length) from (by rw [prsTo_succ, show n - (a + 1) = k from by omega]))) (.cons rfl (.nil))))) (.consE (show row 70 2 A3 ((prsTo n a ++ prow a k).length) (c3) (cells fE (prsTo n a ++ prow a k)) = row 70 2 A3 ((prsTo n (a + 1)).length) (c3) (cells fE (prsTo n (a + 1))) by rw [prsTo_succ, show n - (a + 1) = k from by omega]) (.head) (.nil)))
  ·
    refine wl_nil ?_
    refine ce_then ?_
    refine cw_false rfl ?_
    refine cw_exit ?_
    refine ce_then_exit ?_
    refine ce_then_exit ?_
    refine ce_hit ?_
    refine ce_then ?_
    refine cw_seq ?_
    refine cw_region ?_
    refine wl_v (ov_move rfl) rfl rfl rfl ?_
    refine wl_v (ov_assign rfl) rfl rfl rfl ?_
    refine wl_nil ?_
    refine ce_then ?_
    refine cw_ret ?_
    refine ce_results (v := .slice A2 ((prsTo n a).length) (c2)) (res1 rfl (rv_t rfl)) (fun w' hw => ?_)
    exact ⟨A2, c2, (by rw [prs, show prsTo n n = prsTo n a from by rw [show n = a from by omega]]; exact hk2), (by rw [prs, show prsTo n n = prsTo n a from by rw [show n = a from by omega]]), ((.consE (show row 70 2 A2 ((prsTo n a).length) (c2) (cells fE (prsTo n a)) = row 70 2 A2 ((prs n).length) (c2) (cells fE (prs n)) by rw [prs, show prsTo n n = prsTo n a from by rw [show n = a from by omega]]) (.head) (.nil) : Keep _ _).ss hw).to_new⟩
set_option maxRecDepth 100000 in
theorem complementS_c (w : World) (m : Nat) (A : Option Addr) (n : Nat) (c : Nat) (es : List (Int × Int)) (hA : At w A (cells fE es)) (eA : es.length = n) (lA : n ≤ c) (hs : es.length ≤ 1048576) (hm : m ≤ 10) : Calls Try.prog 50 #[.agg #[.int .i64 (((m : Nat) : Int)), .slice A (n) (c)]] w (Ret fun rv w' => ∃ A2 c2, ((compl m es (prs m).length).length ≤ c2) ∧ rv = .agg #[.int .i64 (((m : Nat) : Int)), .slice A2 ((compl m es (prs m).length).length) (c2)] ∧ New w w' [row 70 2 A2 ((compl m es (prs m).length).length) (c2) (cells fE (compl m es (prs m).length))]) := by
  have oA := hA.atB
  subst eA
  have hpl := prs_len hm
  refine fn_enter (args := [.agg #[.int .i64 (((m : Nat) : Int)), .slice A (es.length) (c)]]) Try.func50 rfl Try.ntmps50 rfl (SS.start w) ?_
  refine cw_seq ?_
  refine cw_region ?_
  refine wl_r (or_box rfl rfl) rfl rfl (kt1 rfl (fun g1 => ?_))
  refine wl_r (or_alloc tI30 rfl) rfl rfl (kt1 rfl (fun g2 => ?_))
  refine wl_nil ?_
  refine ce_then ?_
  refine cw_seq ?_
  refine cw_region ?_
  refine wl_v (ov_fieldAddr fI30_0 some_lit rfl) rfl rfl rfl ?_
  refine wl_v (ov_load tI3 (holds_blk (List.Mem.tail _ (List.Mem.head _))) rfl rfl) rfl rfl rfl ?_
  refine wl_r (or_buildSlice (e := 70) (size := 2) (is := []) (vs := []) (cs := cells fE ([])) rfl rfl rfl (by decide) (fun _ => by kernel_rfl)) rfl rfl (kt1 rfl (fun g8 => ?_))
  refine wl_v (ov_build (is := [0, 1]) (vs := [.int .i64 (((m : Nat) : Int)), .slice (some ⟨g8, 0, none⟩) (0) (0)]) (v := .agg #[.int .i64 (((m : Nat) : Int)), .slice (some ⟨g8, 0, none⟩) (0) (0)]) rfl rfl (fun _ => by kernel_rfl)) rfl rfl rfl ?_
  refine wl_r (or_alloc tI30 rfl) rfl rfl (kt1 rfl (fun g3 => ?_))
  refine wl_r0 (or_store_blk (vs := [.int .i64 (((m : Nat) : Int)), .slice (some ⟨g8, 0, none⟩) (0) (0)]) (cs' := [.int .i64 (((m : Nat) : Int)), .slice (some ⟨g8, 0, none⟩) (0) (0)]) (.head) tI30 rfl rfl rfl rfl (Nat.le_of_ble_eq_true rfl) rfl) rfl rfl (kn0 ?_)
  refine wl_nil ?_
  refine ce_then ?_
  refine cw_seq ?_
  refine cw_region ?_
  refine wl_v (ov_fieldAddr fI30_0 some_lit rfl) rfl rfl rfl ?_
  refine wl_v (ov_load tI3 (holds_blk (List.Mem.tail _ (List.Mem.tail _ (List.Mem.tail _ (List.Mem.head _))))) rfl rfl) rfl rfl rfl ?_
  refine wl_r (or_call (fv := []) (vs := [.int .i64 (((m : Nat) : Int))]) (cs := []) en82 rfl rfl (call_x2 (fun w hw => pairsS_c w m (by first | assumption | omega | (simp; omega))))) rfl rfl (kt2p rfl (fun A2_12 c2_12 h_12 => ?_))
  refine wl_v (ov_assign rfl) rfl rfl rfl ?_
  refine wl_nil ?_
  refine ce_then ?_
  refine cw_seq ?_
  refine cw_seq ?_
  refine cw_region ?_
  refine wl_v (ov_assign rfl) rfl rfl rfl ?_
  refine wl_nil ?_
  refine ce_then ?_
  refine cw_block ?_
  refine cw_loop3 (fun (k : Nat) (A2 : Option Addr) (c2 : Nat) => [(1, elp (some ⟨g1, 0, none⟩) (0)), (2, elp (some ⟨g2, 0, none⟩) (0)), (3, elp (some ⟨g3, 0, none⟩) (0)), (4, .slice A2_12 ((prs m).length) (c2_12)), (5, .int .i64 (((k : Nat) : Int)))]) (fun (k : Nat) (A2 : Option Addr) (c2 : Nat) => [row 70 2 A2_12 ((prs m).length) (c2_12) (cells fE (prs m)), blk g3 [.int .i64 (((m : Nat) : Int)), .slice A2 ((compl m es k).length) (c2)] 30, row 70 2 A2 ((compl m es k).length) (c2) (cells fE (compl m es k)), blk g2 [.int .i64 (0), .slice none (0) (0)] 30, blk g1 [.int .i64 (((m : Nat) : Int)), .slice A (es.length) (c)] 30]) (fun (k : Nat) (A2 : Option Addr) (c2 : Nat) => k ≤ (prs m).length ∧ (compl m es k).length ≤ c2) (fun (k : Nat) (A2 : Option Addr) (c2 : Nat) => (prs m).length - k) 0 (some ⟨g8, 0, none⟩) 0 ⟨by omega, Nat.le_refl _⟩ (.cons rfl (.cons rfl (.cons rfl (.cons rfl (.cons (congrArg (fun z => some (Value.int .i64 z)) (show 0 = ((0 : Nat) : Int) by first | omega | rfl | (simp; done))) (.nil)))))) (.cons (.head) (.consE (show blk g3 [.int .i64 (((m : Nat) : Int)), .slice (some ⟨g8, 0, none⟩) (0) (0)] 30 = blk g3 [.int .i64 (((m : Nat) : Int)), .slice (some ⟨g8, 0, none⟩) ((compl m es 0).length) (0)] 30 by rfl) (.head) (.consE (show row 70 2 (some ⟨g8, 0, none⟩) (0) (0) (cells fE ([])) = row 70 2 (some ⟨g8, 0, none⟩) ((compl m es 0).length) (0) (cells fE (compl m es 0)) by rfl) (.head) (.cons (.head) (.cons (.head) (.nil)))))) ?_
  intro R0 k A2 c2 hk hR0
  obtain ⟨hk1, hk2⟩ := hk
  have hcl := compl_len m es k
  refine cw_seq ?_
  refine cw_seq ?_
  refine cw_region ?_
  refine wl_v (ov_move rfl) rfl rfl rfl ?_
  refine wl_v (ov_move rfl) rfl rfl rfl ?_
  refine wl_v (ov_len (sliceI_spec sI28) rfl) rfl rfl rfl ?_
  refine wl_if (ov_lss rfl rfl) rfl rfl rfl (fun c16 => ?_) (fun c16 => ?_)
  ·
    refine wl_nil ?_
    refine ce_then ?_
    refine cw_true rfl ?_
    refine cw_skip ?_
    refine ce_then ?_
    refine cw_seq ?_
    refine cw_block ?_
    refine cw_seq ?_
    refine cw_draw mixO [] (.cons (.head) (.cons (.head) (.cons (.head) (.cons (.head) (.cons (.head) (.nil)))))) rfl ?_
    refine wg_take (i := 0) rfl (ov_loadAgg (vs := [.int .i64 (((m : Nat) : Int)), .slice A (es.length) (c)]) tI30 (holds_blk (List.Mem.tail _ (List.Mem.tail _ (List.Mem.tail _ (List.Mem.tail _ (List.Mem.head _)))))) rfl some_lit rfl rfl) rfl rfl rfl (by kernel_rfl) (by kernel_rfl) (by kernel_rfl) (by kernel_rfl) ?_
    refine wg_takep (i := 1) rfl (ov_move rfl) rfl rfl rfl (by kernel_rfl) (by kernel_rfl) (by kernel_rfl) rfl ?_
    refine wg_takep (i := 2) rfl (ov_move rfl) rfl rfl rfl (by kernel_rfl) (by kernel_rfl) (by kernel_rfl) rfl ?_
    refine wg_take (i := 3) rfl (ov_index (k := k) (c := c2_12) sI28 tI70 rfl rfl (some_holds (q := k * 2) (holds_row (List.Mem.head _)) (by rw [cells_length fE_len]; have hlt : k < (prs m).length := (by first | omega | (simp; omega)); omega)) (show k < (prs m).length from (by first | omega | (simp; omega)))) rfl rfl rfl (by kernel_rfl) (by kernel_rfl) (by kernel_rfl) (by kernel_rfl) ?_
    refine wg_take (i := 4) rfl (ov_fieldAddr fI70_0 (some_holds (q := k * 2) (holds_row (List.Mem.head _)) (by rw [cells_length fE_len]; have hlt : k < (prs m).length := (by first | omega | (simp; omega)); omega)) rfl) rfl rfl rfl (by kernel_rfl) (by kernel_rfl) (by kernel_rfl) (by kernel_rfl) ?_
    refine wg_take (i := 5) rfl (ov_load tI3 (holds_row (List.Mem.head _)) rfl (get_fE0 (show k < (prs m).length from (by first | omega | (simp; omega))))) rfl rfl rfl (by kernel_rfl) (by kernel_rfl) (by kernel_rfl) (by kernel_rfl) ?_
    refine wg_takep (i := 6) rfl (ov_move rfl) rfl rfl rfl (by kernel_rfl) (by kernel_rfl) (by kernel_rfl) rfl ?_
    refine wg_takep (i := 7) rfl (ov_move rfl) rfl rfl rfl (by kernel_rfl) (by kernel_rfl) (by kernel_rfl) rfl ?_
    refine wg_take (i := 8) rfl (ov_index (k := k) (c := c2_12) sI28 tI70 rfl rfl (some_holds (q := k * 2) (holds_row (List.Mem.head _)) (by rw [cells_length fE_len]; have hlt : k < (prs m).length := (by first | omega | (simp; omega)); omega)) (show k < (prs m).length from (by first | omega | (simp; omega)))) rfl rfl rfl (by kernel_rfl) (by kernel_rfl) (by kernel_rfl) (by kernel_rfl) ?_
    refine wg_take (i := 9) rfl (ov_fieldAddr fI70_1 (some_holds (q := k * 2) (holds_row (List.Mem.head _)) (by rw [cells_length fE_len]; have hlt : k < (prs m).length := (by first | omega | (simp; omega)); omega)) rfl) rfl rfl rfl (by kernel_rfl) (by kernel_rfl) (by kernel_rfl) (by kernel_rfl) ?_
    refine wg_take (i := 10) rfl (ov_load tI3 (holds_row (List.Mem.head _)) rfl (get_fE1 (show k < (prs m).length from (by first | omega | (simp; omega))))) rfl rfl rfl (by kernel_rfl) (by kernel_rfl) (by kernel_rfl) (by kernel_rfl) ?_
    refine wg_one (i := 11) (by kernel_rfl) ?_
    refine go_r rfl rfl rfl rfl (or_call (fv := []) (vs := [.agg #[.int .i64 (((m : Nat) : Int)), .slice A (es.length) (c)], .int .i64 (((prs m).getD k (0, 0)).1), .int .i64 (((prs m).getD k (0, 0)).2)]) (cs := []) en86 rfl rfl (call_v (fun w hw => hasEdge_c w ((m : Nat) : Int) A es.length c es (((prs m).getD k (0, 0)).1) (((prs m).getD k (0, 0)).2) ((holds_old oA) w hw) rfl lA (by first | assumption | omega | (simp; omega))))) (kt_if rfl (fun c30 => ?_) (fun c30 => ?_))
    ·
      refine gk (.cons (.head) (.cons (.head) (.cons (.head) (.cons (.head) (.cons (.head) (.nil)))))) ?_
      refine wg_takep (i := 12) rfl (ov_not rfl) rfl rfl rfl (by kernel_rfl) (by kernel_rfl) (by kernel_rfl) rfl ?_
      refine wg_done (by kernel_rfl) ?_
      refine ce_then ?_
      refine cw_false rfl ?_
      refine cw_skip ?_
      refine ce_block ?_
      refine ce_then ?_
      refine cw_region ?_
      refine wl_v (ov_move rfl) rfl rfl rfl ?_
      refine wl_v (ov_add (r := ((k + 1 : Nat) : Int)) rfl rfl rfl (by omega)) rfl rfl rfl ?_
      refine wl_v (ov_assign rfl) rfl rfl rfl ?_
      refine wl_nil ?_
      exact fun ac_ w_ hs_ => hR0 (k + 1) A2 c2 ⟨by omega, by rw [compl_succ (by omega), if_pos c30, List.append_nil]; exact hk2⟩ (by omega) ac_ w_ (hs_.weaken (.cons rfl (.cons rfl (.cons rfl (.cons rfl (.cons rfl (.nil)))))) (.cons (.head) (.consE (show blk g3 [.int .i64 (((m : Nat) : Int)), .slice A2 ((compl m es k).length) (c2)] 30 = blk g3 [.int .i64 (((m : Nat) : Int)), .slice A2 ((compl m es (k + 1)).length) (c2)] 30 by rw [compl_succ (by omega), if_pos c30, List.append_nil]) (.head) (.consE (show row 70 2 A2 ((compl m es k).length) (c2) (cells fE (compl m es k)) = row 70 2 A2 ((compl m es (k + 1)).length) (c2) (cells fE (compl m es (k + 1))) by rw [compl_succ (by omega), if_pos c30, List.append_nil]) (.head) (.cons (.head) (.cons (.head) (.nil)))))))
    ·
      refine gk (.cons (.head) (.cons (.head) (.cons (.head) (.cons (.head) (.cons (.head) (.nil)))))) ?_
      refine wg_takep (i := 12) rfl (ov_not rfl) rfl rfl rfl (by kernel_rfl) (by kernel_rfl) (by kernel_rfl) rfl ?_
      refine wg_done (by kernel_rfl) ?_
      refine ce_then ?_
      refine cw_true rfl ?_
      refine cw_draw mixO [9] (.cons (.head) (.cons (.head) (.cons (.tail .head) (.cons (.tail .head) (.nil))))) rfl ?_
      refine wg_take (i := 0) rfl (ov_fieldAddr fI30_1 some_lit rfl) rfl rfl rfl (by kernel_rfl) (by kernel_rfl) (by kernel_rfl) (by kernel_rfl) ?_
      refine wg_take (i := 1) rfl (ov_load tI28 (holds_blk (List.Mem.tail _ (List.Mem.head _))) rfl rfl) rfl rfl rfl (by kernel_rfl) (by kernel_rfl) (by kernel_rfl) (by kernel_rfl) ?_
      refine wg_takep (i := 2) rfl (ov_move rfl) rfl rfl rfl (by kernel_rfl) (by kernel_rfl) (by kernel_rfl) rfl ?_
      refine wg_takep (i := 3) rfl (ov_move rfl) rfl rfl rfl (by kernel_rfl) (by kernel_rfl) (by kernel_rfl) rfl ?_
      refine wg_take (i := 4) rfl (ov_index (k := k) (c := c2_12) sI28 tI70 rfl rfl (some_holds (q := k * 2) (holds_row (List.Mem.head _)) (by rw [cells_length fE_len]; have hlt : k < (prs m).length := (by first | omega | (simp; omega)); omega)) (show k < (prs m).length from (by first | omega | (simp; omega)))) rfl rfl rfl (by kernel_rfl) (by kernel_rfl) (by kernel_rfl) (by kernel_rfl) ?_
      refine wg_take (i := 5) rfl (ov_loadAgg (vs := [.int .i64 (((prs m).getD k (0, 0)).1), .int .i64 (((prs m).getD k (0, 0)).2)]) tI70 (holds_row (List.Mem.head _)) rfl (some_holds (q := k * 2) (holds_row (List.Mem.head _)) (by rw [cells_length fE_len]; have hlt : k < (prs m).length := (by first | omega | (simp; omega)); omega)) (cells_elem fE_len (0, 0) (show k < (prs m).length from (by first | omega | (simp; omega)))) rfl) rfl rfl rfl (by kernel_rfl) (by kernel_rfl) (by kernel_rfl) (by kernel_rfl) ?_
      refine wg_one (i := 6) (by kernel_rfl) ?_
      refine go_r rfl rfl rfl rfl (or_buildSlice (e := 70) (size := 2) (is := [0]) (vs := [.agg #[.int .i64 (((prs m).getD k (0, 0)).1), .int .i64 (((prs m).getD k (0, 0)).2)]]) (cs := cells fE ([(((prs m).getD k (0, 0)).1, ((prs m).getD k (0, 0)).2)])) rfl rfl rfl (by decide) (fun _ => by kernel_rfl)) (kt1 rfl (fun g38 => ?_))
      refine gk (.cons (.tail .head) (.cons (.tail .head) (.cons (.tail (.tail .head)) (.cons (.tail (.tail .head)) (.nil))))) ?_
      refine wg_one (i := 7) (by kernel_rfl) ?_
      refine go_r rfl rfl rfl rfl (or_append (c2 := 1) sI28 tI70 rfl (by decide) rfl rfl (.tail (.tail (.tail .head))) (holds_row (List.Mem.head _)) (by rw [cells_length fE_len]; try simp) (one_cells fE_one _) cells_append (by omega) (by omega)) (kt2p rfl (fun A39 c39 h39 => ?_))
      refine gk (.cons (.tail (.tail .head)) (.cons (.tail (.tail .head)) (.cons (.tail (.tail .head)) (.cons (.tail (.tail .head)) (.nil))))) ?_
      refine wg_take (i := 8) rfl (ov_fieldAddr fI30_1 some_lit rfl) rfl rfl rfl (by kernel_rfl) (by kernel_rfl) (by kernel_rfl) (by kernel_rfl) ?_
      refine wg_one (i := 9) (by kernel_rfl) ?_
      refine go_late0 rfl rfl rfl rfl (or_store_blk (vs := [.slice A39 (((compl m es k).length) + 1) (c39)]) (cs' := [.int .i64 (((m : Nat) : Int)), .slice A39 (((compl m es k).length) + 1) (c39)]) (.tail (.tail (.tail .head))) tI28 rfl rfl rfl rfl (Nat.le_of_ble_eq_true rfl) rfl) (kn0 ?_)
      refine wa_done (by kernel_rfl) ?_
      refine ce_block ?_
      refine ce_then ?_
      refine cw_region ?_
      refine wl_v (ov_move rfl) rfl rfl rfl ?_
      refine wl_v (ov_add (r := ((k + 1 : Nat) : Int)) rfl rfl rfl (by omega)) rfl rfl rfl ?_
      refine wl_v (ov_assign rfl) rfl rfl rfl ?_
      refine wl_nil ?_
      exact fun ac_ w_ hs_ => hR0 (k + 1) A39 c39 ⟨by omega, by rw [compl_succ (by omega), if_neg c30, List.length_append]; exact h39⟩ (by omega) ac_ w_ (hs_.weaken (.cons rfl (.cons rfl (.cons rfl (.cons rfl (.cons rfl (.nil)))))) (.cons (.tail (.tail (.tail .head))) (.consE (show blk g3 [.int .i64 (((m : Nat) : Int)), .slice A39 (((compl m es k).length) + 1) (c39)] 30 = blk g3 [.int .i64 (((m : Nat) : Int)), .slice A39 ((compl m es (k + 1)).length) (c39)] 30 by rw [compl_succ (by omega), if_neg c30, List.length_append]; rfl) (.head) (.consE (show row 70 2 A39 (((compl m es k).length) + 1) (c39) (cells fE ((compl m es k) ++ ([(((prs m).getD k (0, 0)).1, ((prs m).getD k (0, 0)).2)]))) = row 70 2 A39 ((compl m es (k + 1)).length) (c39) (cells fE (compl m es (k + 1))) by rw [compl_succ (by omega), if_neg c30, List.length_append]; rfl) (.head) (.cons (.tail .head) (.cons (.tail .head) (.nil)))))))
  ·
    refine wl_nil ?_
    refine ce_then ?_
    refine cw_false rfl ?_
    refine cw_exit ?_
    refine ce_then_exit ?_
    refine ce_then_exit ?_
    refine ce_hit ?_
    refine ce_then ?_
    refine cw_seq ?_
    refine cw_region ?_
    refine wl_v (ov_loadAgg (vs := [.int .i64 (((m : Nat) : Int)), .slice A2 ((compl m es k).length) (c2)]) tI30 (holds_blk (List.Mem.tail _ (List.Mem.head _))) rfl some_lit rfl rfl) rfl rfl rfl ?_
    refine wl_r0 (or_store_blk (vs := [.int .i64 (((m : Nat) : Int)), .slice A2 ((compl m es k).length) (c2)]) (cs' := [.int .i64 (((m : Nat) : Int)), .slice A2 ((compl m es k).length) (c2)]) (.tail (.tail (.tail .head))) tI30 rfl rfl rfl rfl (Nat.le_of_ble_eq_true rfl) rfl) rfl rfl (kn0 ?_)
    refine wl_nil ?_
    refine ce_then ?_
    refine cw_ret ?_
    refine ce_results (v := .agg #[.int .i64 (((m : Nat) : Int)), .slice A2 ((compl m es k).length) (c2)]) (res1 rfl (rv_c rfl tI30 rfl (List.Mem.head _))) (fun w' hw => ?_)
    exact ⟨A2, c2, (by rw [show (prs m).length = k from by omega]; exact hk2), (by rw [show (prs m).length = k from by omega]), ((.consE (show row 70 2 A2 ((compl m es k).length) (c2) (cells fE (compl m es k)) = row 70 2 A2 ((compl m es (prs m).length).length) (c2) (cells fE (compl m es (prs m).length)) by rw [show (prs m).length = k from by omega]) (.tail (.tail (.tail .head))) (.nil) : Keep _ _).ss hw).to_new⟩
set_option maxRecDepth 100000 in
theorem degreesS_c (w : World) (m : Nat) (A : Option Addr) (n : Nat) (c : Nat) (es : List (Int × Int)) (hA : At w A (cells fE es)) (eA : es.length = n) (lA : n ≤ c) (hs : es.length ≤ 1000) (hm : m ≤ 10) (he : ∀ e ∈ es, 0 ≤ e.1 ∧ e.1 < e.2 ∧ e.2 < (m : Int)) : Calls Try.prog 76 #[.agg #[.int .i64 (((m : Nat) : Int)), .slice A (n) (c)]] w (Ret fun rv w' => ∃ g, (True) ∧ rv = .slice (some ⟨g, 0, none⟩) (m) (m) ∧ New w w' [row 3 1 (some ⟨g, 0, none⟩) (m) (m) (cells fI (degs m es))]) := by
  have oA := hA.atB
  subst eA
  refine fn_enter (args := [.agg #[.int .i64 (((m : Nat) : Int)), .slice A (es.length) (c)]]) Try.func76 rfl Try.ntmps76 rfl (SS.start w) ?_
  refine cw_seq ?_
  refine cw_region ?_
  refine wl_r (or_box rfl rfl) rfl rfl (kt1 rfl (fun g1 => ?_))
  refine wl_v (ov_assign rfl) rfl rfl rfl ?_
  refine wl_nil ?_
  refine ce_then ?_
  refine cw_seq ?_
  refine cw_region ?_
  refine wl_v (ov_fieldAddr fI30_0 some_lit rfl) rfl rfl rfl ?_
  refine wl_v (ov_load tI3 (holds_blk (List.Mem.head _)) rfl rfl) rfl rfl rfl ?_
  refine wl_r (or_makeSlice (m := m) sI25 tI3 rfl rfl (made_fI _) (by omega) (show m ≤ maxLen by simp only [maxLen]; omega)) rfl rfl (kt1 rfl (fun g7 => ?_))
  refine wl_v (ov_assign rfl) rfl rfl rfl ?_
  refine wl_nil ?_
  refine ce_then ?_
  refine cw_seq ?_
  refine cw_seq ?_
  refine cw_region ?_
  refine wl_v (ov_assign rfl) rfl rfl rfl ?_
  refine wl_nil ?_
  refine ce_then ?_
  refine cw_block ?_
  refine cw_loop1 (fun (k : Nat) => [(1, elp (some ⟨g1, 0, none⟩) (0)), (2, .slice none (0) (0)), (3, .slice (some ⟨g7, 0, none⟩) (m) (m)), (4, .int .i64 (((k : Nat) : Int)))]) (fun (k : Nat) => [row 3 1 (some ⟨g7, 0, none⟩) (m) (m) (cells fI (degsTo m es k)), blk g1 [.int .i64 (((m : Nat) : Int)), .slice A (es.length) (c)] 30]) (fun (k : Nat) => k ≤ es.length) (fun (k : Nat) => es.length - k) 0 (by omega) (.cons rfl (.cons rfl (.cons rfl (.cons (congrArg (fun z => some (Value.int .i64 z)) (show 0 = ((0 : Nat) : Int) by first | omega | rfl | (simp; done))) (.nil))))) (.consE (show row 3 1 (some ⟨g7, 0, none⟩) (m) (m) (cells fI (List.replicate m 0)) = row 3 1 (some ⟨g7, 0, none⟩) (m) (m) (cells fI (degsTo m es 0)) by rfl) (.head) (.cons (.head) (.nil))) ?_
  intro R0 k hk hR0
  have hdl := degsTo_length m es k
  refine cw_seq ?_
  refine cw_seq ?_
  refine cw_region ?_
  refine wl_v (ov_move rfl) rfl rfl rfl ?_
  refine wl_v (ov_fieldAddr fI30_1 some_lit rfl) rfl rfl rfl ?_
  refine wl_v (ov_load tI28 (holds_blk (List.Mem.tail _ (List.Mem.head _))) rfl rfl) rfl rfl rfl ?_
  refine wl_v (ov_len (sliceI_spec sI28) rfl) rfl rfl rfl ?_
  refine wl_if (ov_lss rfl rfl) rfl rfl rfl (fun c12 => ?_) (fun c12 => ?_)
  ·
    refine wl_nil ?_
    refine ce_then ?_
    refine cw_true rfl ?_
    refine cw_skip ?_
    refine ce_then ?_
    refine cw_seq ?_
    refine cw_block ?_
    refine cw_seq ?_
    refine cw_draw mixO [18] (.cons (.head) (.cons (.head) (.nil))) rfl ?_
    refine wg_takep (i := 0) rfl (ov_move rfl) rfl rfl rfl (by kernel_rfl) (by kernel_rfl) (by kernel_rfl) rfl ?_
    refine wg_take (i := 1) rfl (ov_fieldAddr fI30_1 some_lit rfl) rfl rfl rfl (by kernel_rfl) (by kernel_rfl) (by kernel_rfl) (by kernel_rfl) ?_
    refine wg_take (i := 2) rfl (ov_load tI28 (holds_blk (List.Mem.tail _ (List.Mem.head _))) rfl rfl) rfl rfl rfl (by kernel_rfl) (by kernel_rfl) (by kernel_rfl) (by kernel_rfl) ?_
    refine wg_takep (i := 3) rfl (ov_move rfl) rfl rfl rfl (by kernel_rfl) (by kernel_rfl) (by kernel_rfl) rfl ?_
    refine wg_take (i := 4) rfl (ov_index (k := k) (c := c) sI28 tI70 rfl rfl (some_holds (q := k * 2) (holds_old oA) (by rw [cells_length fE_len]; have hlt : k < es.length := (by omega); omega)) (show k < es.length from (by omega))) rfl rfl rfl (by kernel_rfl) (by kernel_rfl) (by kernel_rfl) (by kernel_rfl) ?_
    refine wg_take (i := 5) rfl (ov_fieldAddr fI70_0 (some_holds (q := k * 2) (holds_old oA) (by rw [cells_length fE_len]; have hlt : k < es.length := (by omega); omega)) rfl) rfl rfl rfl (by kernel_rfl) (by kernel_rfl) (by kernel_rfl) (by kernel_rfl) ?_
    refine wg_take (i := 6) rfl (ov_load tI3 (holds_old oA) rfl (get_fE0 (show k < es.length from (by omega)))) rfl rfl rfl (by kernel_rfl) (by kernel_rfl) (by kernel_rfl) (by kernel_rfl) ?_
    have hek := he _ (getD_mem (xs := es) (k := k) (0, 0) (by omega))
    have hb1 := degsTo_bd he k (es.getD k (0, 0)).1.toNat
    have hb2 := degsTo_bd he k (es.getD k (0, 0)).2.toNat
    refine wg_takep (i := 7) rfl (ov_move rfl) rfl rfl rfl (by kernel_rfl) (by kernel_rfl) (by kernel_rfl) rfl ?_
    refine wg_take (i := 8) rfl (ov_fieldAddr fI30_1 some_lit rfl) rfl rfl rfl (by kernel_rfl) (by kernel_rfl) (by kernel_rfl) (by kernel_rfl) ?_
    refine wg_take (i := 9) rfl (ov_load tI28 (holds_blk (List.Mem.tail _ (List.Mem.head _))) rfl rfl) rfl rfl rfl (by kernel_rfl) (by kernel_rfl) (by kernel_rfl) (by kernel_rfl) ?_
    refine wg_takep (i := 10) rfl (ov_move rfl) rfl rfl rfl (by kernel_rfl) (by kernel_rfl) (by kernel_rfl) rfl ?_
    refine wg_take (i := 11) rfl (ov_index (k := k) (c := c) sI28 tI70 rfl rfl (some_holds (q := k * 2) (holds_old oA) (by rw [cells_length fE_len]; have hlt : k < es.length := (by omega); omega)) (show k < es.length from (by omega))) rfl rfl rfl (by kernel_rfl) (by kernel_rfl) (by kernel_rfl) (by kernel_rfl) ?_
    refine wg_take (i := 12) rfl (ov_fieldAddr fI70_0 (some_holds (q := k * 2) (holds_old oA) (by rw [cells_length fE_len]; have hlt : k < es.length := (by omega); omega)) rfl) rfl rfl rfl (by kernel_rfl) (by kernel_rfl) (by kernel_rfl) (by kernel_rfl) ?_
    refine wg_take (i := 13) rfl (ov_load tI3 (holds_old oA) rfl (get_fE0 (show k < es.length from (by omega)))) rfl rfl rfl (by kernel_rfl) (by kernel_rfl) (by kernel_rfl) (by kernel_rfl) ?_
    refine wg_take (i := 14) rfl (ov_indexg sI25 tI3 rfl rfl (some_holds (q := (((es.getD k (0, 0)).1).toNat) * 1) (holds_row (List.Mem.head _)) (by rw [cells_length fI_len]; have hlt : ((es.getD k (0, 0)).1).toNat < (degsTo m es k).length := (by omega); omega)) (by omega) (show ((es.getD k (0, 0)).1).toNat < m from (by omega))) rfl rfl rfl (by kernel_rfl) (by kernel_rfl) (by kernel_rfl) (by kernel_rfl) ?_
    refine wg_take (i := 15) rfl (ov_load tI3 (holds_row (List.Mem.head _)) rfl (get_fI (show ((es.getD k (0, 0)).1).toNat < (degsTo m es k).length from (by omega)))) rfl rfl rfl (by kernel_rfl) (by kernel_rfl) (by kernel_rfl) (by kernel_rfl) ?_
    refine wg_takep (i := 16) rfl (ov_add (r := ((degsTo m es k).getD (((es.getD k (0, 0)).1).toNat) 0) + 1) rfl rfl rfl (by omega)) rfl rfl rfl (by kernel_rfl) (by kernel_rfl) (by kernel_rfl) rfl ?_
    refine wg_take (i := 17) rfl (ov_indexg sI25 tI3 rfl rfl (some_holds (q := (((es.getD k (0, 0)).1).toNat) * 1) (holds_row (List.Mem.head _)) (by rw [cells_length fI_len]; have hlt : ((es.getD k (0, 0)).1).toNat < (degsTo m es k).length := (by omega); omega)) (by omega) (show ((es.getD k (0, 0)).1).toNat < m from (by omega))) rfl rfl rfl (by kernel_rfl) (by kernel_rfl) (by kernel_rfl) (by kernel_rfl) ?_
    refine wg_one (i := 18) (by kernel_rfl) ?_
    refine go_late0 rfl rfl rfl rfl (or_store_row (vs := [.int .i64 (((degsTo m es k).getD (((es.getD k (0, 0)).1).toNat) 0) + 1)]) (cs' := cells fI ((degsTo m es k).set (((es.getD k (0, 0)).1).toNat) (((degsTo m es k).getD (((es.getD k (0, 0)).1).toNat) 0) + 1))) (.head) tI3 rfl rfl rfl rfl (by rw [cells_length fI_len]; have hlt := (show ((es.getD k (0, 0)).1).toNat < (degsTo m es k).length from (by omega)); simp only [List.length_cons, List.length_nil]; omega) (by simp) (cells_splice fI_len (show ((es.getD k (0, 0)).1).toNat < (degsTo m es k).length from (by omega)) (((degsTo m es k).getD (((es.getD k (0, 0)).1).toNat) 0) + 1))) (kn0 ?_)
    refine wa_done (by kernel_rfl) ?_
    refine ce_then ?_
    refine cw_draw mixO [18] (.cons (.head) (.cons (.head) (.nil))) rfl ?_
    refine wg_takep (i := 0) rfl (ov_move rfl) rfl rfl rfl (by kernel_rfl) (by kernel_rfl) (by kernel_rfl) rfl ?_
    refine wg_take (i := 1) rfl (ov_fieldAddr fI30_1 some_lit rfl) rfl rfl rfl (by kernel_rfl) (by kernel_rfl) (by kernel_rfl) (by kernel_rfl) ?_
    refine wg_take (i := 2) rfl (ov_load tI28 (holds_blk (List.Mem.tail _ (List.Mem.head _))) rfl rfl) rfl rfl rfl (by kernel_rfl) (by kernel_rfl) (by kernel_rfl) (by kernel_rfl) ?_
    refine wg_takep (i := 3) rfl (ov_move rfl) rfl rfl rfl (by kernel_rfl) (by kernel_rfl) (by kernel_rfl) rfl ?_
    refine wg_take (i := 4) rfl (ov_index (k := k) (c := c) sI28 tI70 rfl rfl (some_holds (q := k * 2) (holds_old oA) (by rw [cells_length fE_len]; have hlt : k < es.length := (by omega); omega)) (show k < es.length from (by omega))) rfl rfl rfl (by kernel_rfl) (by kernel_rfl) (by kernel_rfl) (by kernel_rfl) ?_
    refine wg_take (i := 5) rfl (ov_fieldAddr fI70_1 (some_holds (q := k * 2) (holds_old oA) (by rw [cells_length fE_len]; have hlt : k < es.length := (by omega); omega)) rfl) rfl rfl rfl (by kernel_rfl) (by kernel_rfl) (by kernel_rfl) (by kernel_rfl) ?_
    refine wg_take (i := 6) rfl (ov_load tI3 (holds_old oA) rfl (get_fE1 (show k < es.length from (by omega)))) rfl rfl rfl (by kernel_rfl) (by kernel_rfl) (by kernel_rfl) (by kernel_rfl) ?_
    refine wg_takep (i := 7) rfl (ov_move rfl) rfl rfl rfl (by kernel_rfl) (by kernel_rfl) (by kernel_rfl) rfl ?_
    refine wg_take (i := 8) rfl (ov_fieldAddr fI30_1 some_lit rfl) rfl rfl rfl (by kernel_rfl) (by kernel_rfl) (by kernel_rfl) (by kernel_rfl) ?_
    refine wg_take (i := 9) rfl (ov_load tI28 (holds_blk (List.Mem.tail _ (List.Mem.head _))) rfl rfl) rfl rfl rfl (by kernel_rfl) (by kernel_rfl) (by kernel_rfl) (by kernel_rfl) ?_
    refine wg_takep (i := 10) rfl (ov_move rfl) rfl rfl rfl (by kernel_rfl) (by kernel_rfl) (by kernel_rfl) rfl ?_
    refine wg_take (i := 11) rfl (ov_index (k := k) (c := c) sI28 tI70 rfl rfl (some_holds (q := k * 2) (holds_old oA) (by rw [cells_length fE_len]; have hlt : k < es.length := (by omega); omega)) (show k < es.length from (by omega))) rfl rfl rfl (by kernel_rfl) (by kernel_rfl) (by kernel_rfl) (by kernel_rfl) ?_
    refine wg_take (i := 12) rfl (ov_fieldAddr fI70_1 (some_holds (q := k * 2) (holds_old oA) (by rw [cells_length fE_len]; have hlt : k < es.length := (by omega); omega)) rfl) rfl rfl rfl (by kernel_rfl) (by kernel_rfl) (by kernel_rfl) (by kernel_rfl) ?_
    refine wg_take (i := 13) rfl (ov_load tI3 (holds_old oA) rfl (get_fE1 (show k < es.length from (by omega)))) rfl rfl rfl (by kernel_rfl) (by kernel_rfl) (by kernel_rfl) (by kernel_rfl) ?_
    refine wg_take (i := 14) rfl (ov_indexg sI25 tI3 rfl rfl (some_holds (q := (((es.getD k (0, 0)).2).toNat) * 1) (holds_row (List.Mem.head _)) (by rw [cells_length fI_len]; have hlt : ((es.getD k (0, 0)).2).toNat < ((degsTo m es k).set (((es.getD k (0, 0)).1).toNat) (((degsTo m es k).getD (((es.getD k (0, 0)).1).toNat) 0) + 1)).length := (by first | omega | (rw [List.length_set]; omega)); omega)) (by omega) (show ((es.getD k (0, 0)).2).toNat < m from (by first | omega | (rw [List.length_set]; omega)))) rfl rfl rfl (by kernel_rfl) (by kernel_rfl) (by kernel_rfl) (by kernel_rfl) ?_
    refine wg_take (i := 15) rfl (ov_load tI3 (holds_row (List.Mem.head _)) rfl (get_fI (show ((es.getD k (0, 0)).2).toNat < ((degsTo m es k).set (((es.getD k (0, 0)).1).toNat) (((degsTo m es k).getD (((es.getD k (0, 0)).1).toNat) 0) + 1)).length from (by first | omega | (rw [List.length_set]; omega))))) rfl rfl rfl (by kernel_rfl) (by kernel_rfl) (by kernel_rfl) (by kernel_rfl) ?_
    have hb3 : (((degsTo m es k).set (((es.getD k (0, 0)).1).toNat) (((degsTo m es k).getD (((es.getD k (0, 0)).1).toNat) 0) + 1)).getD (((es.getD k (0, 0)).2).toNat) 0) = (degsTo m es k).getD (es.getD k (0, 0)).2.toNat 0 := by rw [getD_setI (by omega), if_neg (by omega)]
    refine wg_takep (i := 16) rfl (ov_add (r := (((degsTo m es k).set (((es.getD k (0, 0)).1).toNat) (((degsTo m es k).getD (((es.getD k (0, 0)).1).toNat) 0) + 1)).getD (((es.getD k (0, 0)).2).toNat) 0) + 1) rfl rfl rfl (by omega)) rfl rfl rfl (by kernel_rfl) (by kernel_rfl) (by kernel_rfl) rfl ?_
    refine wg_take (i := 17) rfl (ov_indexg sI25 tI3 rfl rfl (some_holds (q := (((es.getD k (0, 0)).2).toNat) * 1) (holds_row (List.Mem.head _)) (by rw [cells_length fI_len]; have hlt : ((es.getD k (0, 0)).2).toNat < ((degsTo m es k).set (((es.getD k (0, 0)).1).toNat) (((degsTo m es k).getD (((es.getD k (0, 0)).1).toNat) 0) + 1)).length := (by first | omega | (rw [List.length_set]; omega)); omega)) (by omega) (show ((es.getD k (0, 0)).2).toNat < m from (by first | omega | (rw [List.length_set]; omega)))) rfl rfl rfl (by kernel_rfl) (by kernel_rfl) (by kernel_rfl) (by kernel_rfl) ?_
    refine wg_one (i := 18) (by kernel_rfl) ?_
    refine go_late0 rfl rfl rfl rfl (or_store_row (vs := [.int .i64 ((((degsTo m es k).set (((es.getD k (0, 0)).1).toNat) (((degsTo m es k).getD (((es.getD k (0, 0)).1).toNat) 0) + 1)).getD (((es.getD k (0, 0)).2).toNat) 0) + 1)]) (cs' := cells fI (((degsTo m es k).set (((es.getD k (0, 0)).1).toNat) (((degsTo m es k).getD (((es.getD k (0, 0)).1).toNat) 0) + 1)).set (((es.getD k (0, 0)).2).toNat) ((((degsTo m es k).set (((es.getD k (0, 0)).1).toNat) (((degsTo m es k).getD (((es.getD k (0, 0)).1).toNat) 0) + 1)).getD (((es.getD k (0, 0)).2).toNat) 0) + 1))) (.head) tI3 rfl rfl rfl rfl (by rw [cells_length fI_len]; have hlt := (show ((es.getD k (0, 0)).2).toNat < ((degsTo m es k).set (((es.getD k (0, 0)).1).toNat) (((degsTo m es k).getD (((es.getD k (0, 0)).1).toNat) 0) + 1)).length from (by first | omega | (rw [List.length_set]; omega))); simp only [List.length_cons, List.length_nil]; omega) (by simp) (cells_splice fI_len (show ((es.getD k (0, 0)).2).toNat < ((degsTo m es k).set (((es.getD k (0, 0)).1).toNat) (((degsTo m es k).getD (((es.getD k (0, 0)).1).toNat) 0) + 1)).length from (by first | omega | (rw [List.length_set]; omega))) ((((degsTo m es k).set (((es.getD k (0, 0)).1).toNat) (((degsTo m es k).getD (((es.getD k (0, 0)).1).toNat) 0) + 1)).getD (((es.getD k (0, 0)).2).toNat) 0) + 1))) (kn0 ?_)
    refine wa_done (by kernel_rfl) ?_
    refine ce_block ?_
    refine ce_then ?_
    refine cw_region ?_
    refine wl_v (ov_move rfl) rfl rfl rfl ?_
    refine wl_v (ov_add (r := ((k + 1 : Nat) : Int)) rfl rfl rfl (by omega)) rfl rfl rfl ?_
    refine wl_v (ov_assign rfl) rfl rfl rfl ?_
    refine wl_nil ?_
    exact fun ac_ w_ hs_ => hR0 (k + 1) (by omega) (by omega) ac_ w_ (hs_.weaken (.cons rfl (.cons rfl (.cons rfl (.cons rfl (.nil))))) (.consE (show row 3 1 (some ⟨g7, 0, none⟩) (m) (m) (cells fI (((degsTo m es k).set (((es.getD k (0, 0)).1).toNat) (((degsTo m es k).getD (((es.getD k (0, 0)).1).toNat) 0) + 1)).set (((es.getD k (0, 0)).2).toNat) ((((degsTo m es k).set (((es.getD k (0, 0)).1).toNat) (((degsTo m es k).getD (((es.getD k (0, 0)).1).toNat) 0) + 1)).getD (((es.getD k (0, 0)).2).toNat) 0) + 1))) = row 3 1 (some ⟨g7, 0, none⟩) (m) (m) (cells fI (degsTo m es (k + 1))) by rw [degsTo_succ (by omega)] <;> rfl) (.head) (.cons (.head) (.nil))))
  ·
    refine wl_nil ?_
    refine ce_then ?_
    refine cw_false rfl ?_
    refine cw_exit ?_
    refine ce_then_exit ?_
    refine ce_then_exit ?_
    refine ce_hit ?_
    refine ce_then ?_
    refine cw_seq ?_
    refine cw_region ?_
    refine wl_v (ov_move rfl) rfl rfl rfl ?_
    refine wl_v (ov_assign rfl) rfl rfl rfl ?_
    refine wl_nil ?_
    refine ce_then ?_
    refine cw_ret ?_
    refine ce_results (v := .slice (some ⟨g7, 0, none⟩) (m) (m)) (res1 rfl (rv_t rfl)) (fun w' hw => ?_)
    exact ⟨g7, trivial, rfl, ((.consE (show row 3 1 (some ⟨g7, 0, none⟩) (m) (m) (cells fI (degsTo m es k)) = row 3 1 (some ⟨g7, 0, none⟩) (m) (m) (cells fI (degs m es)) by rw [degs, show es.length = k from by omega]) (.head) (.nil) : Keep _ _).ss hw).to_new⟩
end Go.Proofs.Ytlgkooeflgmcaab.W11
