/- Walks of functions of the given program: each returns what its Lean function says and leaves the memory that was there as it was. Conditions: those of each theorem. -/
import Derived.Test.YtfjgfocjogfodaaSm
import Derived.Test.YtfjgfocjogfodaaProg
import Derived.Test.YtfjgfocjogfodaaPl
import Derived.Test.YtfjgfocjogfodaaPo
import Derived.Test.YtfjgfocjogfodaaPd
import Derived.Test.YtfjgfocjogfodaaPe
import Derived.Test.YtfjgfocjogfodaaPh
import Derived.Test.YtfjgfocjogfodaaPm
import Derived.Test.YtfjgfocjogfodaaPc
import Derived.Test.YtfjgfocjogfodaaPs
import Derived.Test.YtfjgfocjogfodaaPt
import Derived.Test.YtfjgfocjogfodaaPu
import Derived.Test.YtfjgfocjogfodaaPv
import Derived.Test.YtfjgfocjogfodaaPw
import Derived.Test.YtfjgfocjogfodaaT
import Derived.Test.YtfjgfocjogfodaaW5
import Derived.Test.YtfjgfocjogfodaaW13
import Derived.Test.YtfjgfocjogfodaaW15
import Derived.KernelRfl
namespace Go.Proofs.Ytfjgfocjogfodaa.W23
open Go.Sx Go.RowKit Go.Proofs.Ytfjgfocjogfodaa.T Go.Proofs.Ytfjgfocjogfodaa.W5 Go.Proofs.Ytfjgfocjogfodaa.W13 Go.Proofs.Ytfjgfocjogfodaa.W15
open Go.Plain
set_option linter.unusedVariables false
set_option maxRecDepth 100000 in
theorem degreesI_c (w : World) (m : Nat) (A : Option Addr) (n : Nat) (c : Nat) (es : List (Int × Int)) (hA : At w A (cells fE es)) (eA : es.length = n) (lA : n ≤ c) (hs : es.length ≤ 1000) (hm : m ≤ 10) (he : ∀ e ∈ es, 0 ≤ e.1 ∧ e.1 < e.2 ∧ e.2 < (m : Int)) : Calls Try.prog 74 #[.agg #[.int .i64 (((m : Nat) : Int)), .slice A (n) (c)]] w (Ret fun rv w' => ∃ g, (True) ∧ rv = .slice (some ⟨g, 0, none⟩) (m) (m) ∧ New w w' [row 3 1 (some ⟨g, 0, none⟩) (m) (m) (cells fI (degs m es))]) := by
  have oA := hA.atB
  subst eA
  refine fn_enter (args := [.agg #[.int .i64 (((m : Nat) : Int)), .slice A (es.length) (c)]]) Try.func74 rfl Try.ntmps74 rfl (SS.start w) ?_
  refine cw_seq ?_
  refine cw_region ?_
  refine wl_r (or_box rfl rfl) rfl rfl (kt1 rfl (fun g1 => ?_))
  refine wl_v (ov_assign rfl) rfl rfl rfl ?_
  refine wl_nil ?_
  refine ce_then ?_
  refine cw_seq ?_
  refine cw_region ?_
  refine wl_v (ov_fieldAddr fI25_0 some_lit rfl) rfl rfl rfl ?_
  refine wl_v (ov_load tI3 (holds_blk (List.Mem.head _)) rfl rfl) rfl rfl rfl ?_
  refine wl_r (or_makeSlice (m := m) sI31 tI3 rfl rfl (made_fI _) (by omega) (show m ≤ maxLen by simp only [maxLen]; omega)) rfl rfl (kt1 rfl (fun g8 => ?_))
  refine wl_v (ov_assign rfl) rfl rfl rfl ?_
  refine wl_nil ?_
  refine ce_then ?_
  refine cw_seq ?_
  refine cw_seq ?_
  refine cw_region ?_
  refine wl_v (ov_fieldAddr fI25_1 some_lit rfl) rfl rfl rfl ?_
  refine wl_v (ov_load tI23 (holds_blk (List.Mem.tail _ (List.Mem.head _))) rfl rfl) rfl rfl rfl ?_
  refine wl_v (ov_len (sliceI_spec sI23) rfl) rfl rfl rfl ?_
  refine wl_v (ov_move rfl) rfl rfl rfl ?_
  refine wl_nil ?_
  refine ce_then ?_
  refine cw_block ?_
  refine cw_loop1 (fun (k : Nat) => [(2, .slice none (0) (0)), (3, .slice (some ⟨g8, 0, none⟩) (m) (m)), (10, .slice A (es.length) (c)), (11, .int .i64 (((es.length : Nat) : Int))), (12, .int .i64 (((k : Nat) : Int)))]) (fun (k : Nat) => [row 3 1 (some ⟨g8, 0, none⟩) (m) (m) (cells fI (degsTo m es k)), blk g1 [.int .i64 (((m : Nat) : Int)), .slice A (es.length) (c)] 25]) (fun (k : Nat) => k ≤ es.length) (fun (k : Nat) => es.length - k) 0 (by omega) (.cons rfl (.cons rfl (.cons rfl (.cons rfl (.cons (congrArg (fun z => some (Value.int .i64 z)) (show 0 = ((0 : Nat) : Int) by first | omega | rfl | (simp; done))) (.nil)))))) (.consE (show row 3 1 (some ⟨g8, 0, none⟩) (m) (m) (cells fI (List.replicate m 0)) = row 3 1 (some ⟨g8, 0, none⟩) (m) (m) (cells fI (degsTo m es 0)) by rfl) (.head) (.cons (.head) (.nil))) ?_
  intro R0 k hk hR0
  have hdl := degsTo_length m es k
  refine cw_seq ?_
  refine cw_region ?_
  refine wl_if (ov_lss rfl rfl) rfl rfl rfl (fun c13 => ?_) (fun c13 => ?_)
  ·
    refine wl_nil ?_
    refine ce_then ?_
    refine cw_seq ?_
    refine cw_true rfl ?_
    refine cw_skip ?_
    refine ce_then ?_
    refine cw_seq ?_
    refine cw_block ?_
    refine cw_seq ?_
    refine cw_region ?_
    refine wl_v (ov_index (k := k) (c := c) sI23 tI43 rfl rfl (some_holds (q := k * 2) (holds_old oA) (by rw [cells_length fE_len]; have hlt : k < es.length := (by first | omega | (rw [List.length_set]; omega)); omega)) (show k < es.length from (by first | omega | (rw [List.length_set]; omega)))) rfl rfl rfl ?_
    refine wl_v (ov_loadAgg (vs := [.int .i64 ((es.getD k (0, 0)).1), .int .i64 ((es.getD k (0, 0)).2)]) tI43 (holds_old oA) rfl (some_holds (q := k * 2) (holds_old oA) (by rw [cells_length fE_len]; have hlt : k < es.length := (by first | omega | (rw [List.length_set]; omega)); omega)) (cells_elem fE_len (0, 0) (show k < es.length from (by first | omega | (rw [List.length_set]; omega)))) rfl) rfl rfl rfl ?_
    have hek := he _ (getD_mem (xs := es) (k := k) (0, 0) (by omega))
    have hb1 := degsTo_bd he k (es.getD k (0, 0)).1.toNat
    have hb2 := degsTo_bd he k (es.getD k (0, 0)).2.toNat
    refine wl_r (or_alloc tI43 rfl) rfl rfl (kt1 rfl (fun g5 => ?_))
    refine wl_r0 (or_store_blk (vs := [.int .i64 ((es.getD k (0, 0)).1), .int .i64 ((es.getD k (0, 0)).2)]) (cs' := [.int .i64 ((es.getD k (0, 0)).1), .int .i64 ((es.getD k (0, 0)).2)]) (.head) tI43 rfl rfl rfl rfl (Nat.le_of_ble_eq_true rfl) rfl) rfl rfl (kn0 ?_)
    refine wl_nil ?_
    refine ce_then ?_
    refine cw_seq ?_
    refine cw_region ?_
    refine wl_v (ov_move rfl) rfl rfl rfl ?_
    refine wl_v (ov_fieldAddr fI43_0 some_lit rfl) rfl rfl rfl ?_
    refine wl_v (ov_load tI3 (holds_blk (List.Mem.head _)) rfl rfl) rfl rfl rfl ?_
    refine wl_v (ov_indexg sI31 tI3 rfl rfl (some_holds (q := (((es.getD k (0, 0)).1).toNat) * 1) (holds_row (List.Mem.tail _ (List.Mem.head _))) (by rw [cells_length fI_len]; have hlt : ((es.getD k (0, 0)).1).toNat < (degsTo m es k).length := (by first | omega | (rw [List.length_set]; omega)); omega)) (by first | omega | (rw [List.length_set]; omega)) (show ((es.getD k (0, 0)).1).toNat < m from (by first | omega | (rw [List.length_set]; omega)))) rfl rfl rfl ?_
    refine wl_v (ov_load tI3 (holds_row (List.Mem.tail _ (List.Mem.head _))) rfl (get_fI (show ((es.getD k (0, 0)).1).toNat < (degsTo m es k).length from (by first | omega | (rw [List.length_set]; omega))))) rfl rfl rfl ?_
    refine wl_v (ov_add (r := ((degsTo m es k).getD (((es.getD k (0, 0)).1).toNat) 0) + 1) rfl rfl rfl (by omega)) rfl rfl rfl ?_
    refine wl_v (ov_indexg sI31 tI3 rfl rfl (some_holds (q := (((es.getD k (0, 0)).1).toNat) * 1) (holds_row (List.Mem.tail _ (List.Mem.head _))) (by rw [cells_length fI_len]; have hlt : ((es.getD k (0, 0)).1).toNat < (degsTo m es k).length := (by first | omega | (rw [List.length_set]; omega)); omega)) (by first | omega | (rw [List.length_set]; omega)) (show ((es.getD k (0, 0)).1).toNat < m from (by first | omega | (rw [List.length_set]; omega)))) rfl rfl rfl ?_
    refine wl_r0 (or_store_row (vs := [.int .i64 (((degsTo m es k).getD (((es.getD k (0, 0)).1).toNat) 0) + 1)]) (cs' := cells fI ((degsTo m es k).set (((es.getD k (0, 0)).1).toNat) (((degsTo m es k).getD (((es.getD k (0, 0)).1).toNat) 0) + 1))) (.tail .head) tI3 rfl rfl rfl rfl (by rw [cells_length fI_len]; have hlt := (show ((es.getD k (0, 0)).1).toNat < (degsTo m es k).length from (by first | omega | (rw [List.length_set]; omega))); simp only [List.length_cons, List.length_nil]; omega) (by simp) (cells_splice fI_len (show ((es.getD k (0, 0)).1).toNat < (degsTo m es k).length from (by first | omega | (rw [List.length_set]; omega))) (((degsTo m es k).getD (((es.getD k (0, 0)).1).toNat) 0) + 1))) rfl rfl (kn0 ?_)
    refine wl_nil ?_
    refine ce_then ?_
    refine cw_region ?_
    refine wl_v (ov_move rfl) rfl rfl rfl ?_
    refine wl_v (ov_fieldAddr fI43_1 some_lit rfl) rfl rfl rfl ?_
    refine wl_v (ov_load tI3 (holds_blk (List.Mem.tail _ (List.Mem.head _))) rfl rfl) rfl rfl rfl ?_
    refine wl_v (ov_indexg sI31 tI3 rfl rfl (some_holds (q := (((es.getD k (0, 0)).2).toNat) * 1) (holds_row (List.Mem.head _)) (by rw [cells_length fI_len]; have hlt : ((es.getD k (0, 0)).2).toNat < ((degsTo m es k).set (((es.getD k (0, 0)).1).toNat) (((degsTo m es k).getD (((es.getD k (0, 0)).1).toNat) 0) + 1)).length := (by first | omega | (rw [List.length_set]; omega)); omega)) (by first | omega | (rw [List.length_set]; omega)) (show ((es.getD k (0, 0)).2).toNat < m from (by first | omega | (rw [List.length_set]; omega)))) rfl rfl rfl ?_
    refine wl_v (ov_load tI3 (holds_row (List.Mem.head _)) rfl (get_fI (show ((es.getD k (0, 0)).2).toNat < ((degsTo m es k).set (((es.getD k (0, 0)).1).toNat) (((degsTo m es k).getD (((es.getD k (0, 0)).1).toNat) 0) + 1)).length from (by first | omega | (rw [List.length_set]; omega))))) rfl rfl rfl ?_
    have hb3 : (((degsTo m es k).set (((es.getD k (0, 0)).1).toNat) (((degsTo m es k).getD (((es.getD k (0, 0)).1).toNat) 0) + 1)).getD (((es.getD k (0, 0)).2).toNat) 0) = (degsTo m es k).getD (es.getD k (0, 0)).2.toNat 0 := by rw [getD_setI (by omega), if_neg (by omega)]
    refine wl_v (ov_add (r := (((degsTo m es k).set (((es.getD k (0, 0)).1).toNat) (((degsTo m es k).getD (((es.getD k (0, 0)).1).toNat) 0) + 1)).getD (((es.getD k (0, 0)).2).toNat) 0) + 1) rfl rfl rfl (by omega)) rfl rfl rfl ?_
    refine wl_v (ov_indexg sI31 tI3 rfl rfl (some_holds (q := (((es.getD k (0, 0)).2).toNat) * 1) (holds_row (List.Mem.head _)) (by rw [cells_length fI_len]; have hlt : ((es.getD k (0, 0)).2).toNat < ((degsTo m es k).set (((es.getD k (0, 0)).1).toNat) (((degsTo m es k).getD (((es.getD k (0, 0)).1).toNat) 0) + 1)).length := (by first | omega | (rw [List.length_set]; omega)); omega)) (by first | omega | (rw [List.length_set]; omega)) (show ((es.getD k (0, 0)).2).toNat < m from (by first | omega | (rw [List.length_set]; omega)))) rfl rfl rfl ?_
    refine wl_r0 (or_store_row (vs := [.int .i64 ((((degsTo m es k).set (((es.getD k (0, 0)).1).toNat) (((degsTo m es k).getD (((es.getD k (0, 0)).1).toNat) 0) + 1)).getD (((es.getD k (0, 0)).2).toNat) 0) + 1)]) (cs' := cells fI (((degsTo m es k).set (((es.getD k (0, 0)).1).toNat) (((degsTo m es k).getD (((es.getD k (0, 0)).1).toNat) 0) + 1)).set (((es.getD k (0, 0)).2).toNat) ((((degsTo m es k).set (((es.getD k (0, 0)).1).toNat) (((degsTo m es k).getD (((es.getD k (0, 0)).1).toNat) 0) + 1)).getD (((es.getD k (0, 0)).2).toNat) 0) + 1))) (.head) tI3 rfl rfl rfl rfl (by rw [cells_length fI_len]; have hlt := (show ((es.getD k (0, 0)).2).toNat < ((degsTo m es k).set (((es.getD k (0, 0)).1).toNat) (((degsTo m es k).getD (((es.getD k (0, 0)).1).toNat) 0) + 1)).length from (by first | omega | (rw [List.length_set]; omega))); simp only [List.length_cons, List.length_nil]; omega) (by simp) (cells_splice fI_len (show ((es.getD k (0, 0)).2).toNat < ((degsTo m es k).set (((es.getD k (0, 0)).1).toNat) (((degsTo m es k).getD (((es.getD k (0, 0)).1).toNat) 0) + 1)).length from (by first | omega | (rw [List.length_set]; omega))) ((((degsTo m es k).set (((es.getD k (0, 0)).1).toNat) (((degsTo m es k).getD (((es.getD k (0, 0)).1).toNat) 0) + 1)).getD (((es.getD k (0, 0)).2).toNat) 0) + 1))) rfl rfl (kn0 ?_)
    refine wl_nil ?_
    refine ce_block ?_
    refine ce_then ?_
    refine cw_region ?_
    refine wl_v (ov_add (r := ((k + 1 : Nat) : Int)) rfl rfl rfl (by omega)) rfl rfl rfl ?_
    refine wl_v (ov_move rfl) rfl rfl rfl ?_
    refine wl_nil ?_
    exact fun ac_ w_ hs_ => hR0 (k + 1) (by omega) (by omega) ac_ w_ (hs_.weaken (.cons rfl (.cons rfl (.cons rfl (.cons rfl (.cons rfl (.nil)))))) (.consE (show row 3 1 (some ⟨g8, 0, none⟩) (m) (m) (cells fI (((degsTo m es k).set (((es.getD k (0, 0)).1).toNat) (((degsTo m es k).getD (((es.getD k (0, 0)).1).toNat) 0) + 1)).set (((es.getD k (0, 0)).2).toNat) ((((degsTo m es k).set (((es.getD k (0, 0)).1).toNat) (((degsTo m es k).getD (((es.getD k (0, 0)).1).toNat) 0) + 1)).getD (((es.getD k (0, 0)).2).toNat) 0) + 1))) = row 3 1 (some ⟨g8, 0, none⟩) (m) (m) (cells fI (degsTo m es (k + 1))) by rw [degsTo_succ (by omega)] <;> rfl) (.head) (.cons (.tail .head) (.nil))))
  ·
    refine wl_nil ?_
    refine ce_then ?_
    refine cw_seq ?_
    refine cw_false rfl ?_
    refine cw_exit ?_
    refine ce_then_exit ?_
    refine ce_then_exit ?_
    refine ce_hit ?_
    refine ce_then ?_
    refine cw_seq ?_
    refine cw_region ?_
    refine wl_v (ov_move rfl) rfl rfl rfl ?_
    refine wl_v (ov_assign rfl) rfl rfl rfl ?_
    refine wl_nil ?_
    refine ce_then ?_
    refine cw_ret ?_
    refine ce_results (v := .slice (some ⟨g8, 0, none⟩) (m) (m)) (res1 rfl (rv_t rfl)) (fun w' hw => ?_)
    exact ⟨g8, trivial, rfl, ((.consE (show row 3 1 (some ⟨g8, 0, none⟩) (m) (m) (cells fI (degsTo m es k)) = row 3 1 (some ⟨g8, 0, none⟩) (m) (m) (cells fI (degs m es)) by rw [degs, show es.length = k from by omega]) (.head) (.nil) : Keep _ _).ss hw).to_new⟩
set_option maxRecDepth 100000 in
theorem DegreesOfI_c (w : World) (N : Int) (A : Option Addr) (n : Nat) (c : Nat) (es : List (Int × Int)) (hA : At w A (cells fE es)) (eA : es.length = n) (lA : n ≤ c) (hs : es.length ≤ 1048576) (hN : N ≤ 9223372036854775807) : Calls Try.prog 29 #[.agg #[.int .i64 (N), .slice A (n) (c)]] w (Ret fun rv w' => ∃ A2 c2, ((degV N es).length ≤ c2) ∧ rv = .slice A2 ((degV N es).length) (c2) ∧ New w w' [row 3 1 A2 ((degV N es).length) (c2) (cells fI (degV N es))]) := by
  have oA := hA.atB
  subst eA
  refine fn_enter (args := [.agg #[.int .i64 (N), .slice A (es.length) (c)]]) Try.func29 rfl Try.ntmps29 rfl (SS.start w) ?_
  refine cw_seq ?_
  refine cw_region ?_
  refine wl_r (or_box rfl rfl) rfl rfl (kt1 rfl (fun g1 => ?_))
  refine wl_v (ov_assign rfl) rfl rfl rfl ?_
  refine wl_nil ?_
  refine ce_then ?_
  refine cw_seq ?_
  refine cw_seq ?_
  refine cw_region ?_
  refine wl_v (ov_loadAgg (vs := [.int .i64 (N), .slice A (es.length) (c)]) tI25 (holds_blk (List.Mem.head _)) rfl some_lit rfl rfl) rfl rfl rfl ?_
  refine wl_r (or_call (fv := []) (vs := [.agg #[.int .i64 (N), .slice A (es.length) (c)]]) (cs := []) en12 rfl rfl (call_v (fun w hw => validGraphI_c w N A es.length c es ((holds_old oA) w hw) rfl lA (by first | assumption | omega | (simp; omega)) (by first | assumption | omega | (simp; omega))))) rfl rfl (kt_if rfl (fun c4 => ?_) (fun c4 => ?_))
  ·
    refine wl_v (ov_not rfl) rfl rfl rfl ?_
    refine wl_nil ?_
    refine ce_then ?_
    refine cw_false rfl ?_
    refine cw_skip ?_
    refine ce_then ?_
    refine cw_seq ?_
    have hv : degV N es = degs N.toNat es := if_pos c4
    obtain ⟨m, rfl⟩ := Int.eq_ofNat_of_zero_le (show 0 ≤ N from c4.2.1)
    have hg : Gr m es := by have h9 := c4.gr; rwa [Int.toNat_natCast] at h9
    have hm : m ≤ 7 := by have h9 := c4.2.2; omega
    rw [Int.toNat_natCast] at hv
    refine cw_region ?_
    refine wl_v (ov_loadAgg (vs := [.int .i64 (((m : Nat) : Int)), .slice A (es.length) (c)]) tI25 (holds_blk (List.Mem.head _)) rfl some_lit rfl rfl) rfl rfl rfl ?_
    refine wl_r (or_call (fv := []) (vs := [.agg #[.int .i64 (((m : Nat) : Int)), .slice A (es.length) (c)]]) (cs := []) en74 rfl rfl (call_x1 (fun w hw => degreesI_c w m A es.length c es ((holds_old oA) w hw) rfl lA (by have := hg.len21 hm; omega) (by first | assumption | omega | (simp; omega)) hg.inr))) rfl rfl (kt1p rfl (fun g_7 h_7 => ?_))
    refine wl_v (ov_assign rfl) rfl rfl rfl ?_
    refine wl_nil ?_
    refine ce_then ?_
    refine cw_ret ?_
    refine ce_results (v := .slice (some ⟨g_7, 0, none⟩) (m) (m)) (res1 rfl (rv_t rfl)) (fun w' hw => ?_)
    exact ⟨some ⟨g_7, 0, none⟩, m, (by rw [hv, degs_length]; exact Nat.le_refl _), (by rw [hv, degs_length]), ((.consE (show row 3 1 (some ⟨g_7, 0, none⟩) (m) (m) (cells fI (degs m es)) = row 3 1 (some ⟨g_7, 0, none⟩) ((degV ((m : Nat) : Int) es).length) (m) (cells fI (degV ((m : Nat) : Int) es)) by rw [hv, degs_length]) (.head) (.nil) : Keep _ _).ss hw).to_new⟩
  ·
    refine wl_v (ov_not rfl) rfl rfl rfl ?_
    refine wl_nil ?_
    refine ce_then ?_
    refine cw_true rfl ?_
    refine cw_seq ?_
    have hv : degV N es = [] := if_neg c4
    refine ct_none fI 3 1 ?_
    refine cw_region ?_
    refine wl_v (ov_assign rfl) rfl rfl rfl ?_
    refine wl_nil ?_
    refine ce_then ?_
    refine cw_ret ?_
    refine ce_then_ret ?_
    refine ce_results (v := .slice none (0) (0)) (res1 rfl (rv_t rfl)) (fun w' hw => ?_)
    exact ⟨none, 0, (by rw [hv]; exact Nat.le_refl _), (by rw [hv] <;> rfl), ((.consE (show row 3 1 none (0) (0) (cells fI ([])) = row 3 1 none ((degV N es).length) (0) (cells fI (degV N es)) by rw [hv] <;> rfl) (.head) (.nil) : Keep _ _).ss hw).to_new⟩
set_option maxRecDepth 100000 in
theorem containsFuncE_c (w : World) (A : Option Addr) (n : Nat) (c : Nat) (es : List (Int × Int)) (Fc : FuncId) (cs : List Value) (p : Ed → Bool) (hA : At w A (cells fE es)) (eA : es.length = n) (lA : n ≤ c) (hs : es.length ≤ 1048576) (hen : Enters Try.prog Fc) (hf : ∀ x ∈ es, ∀ w', Below w.heap.size w w' → Calls Try.prog Fc ([] ++ [Value.agg #[.int .i64 x.1, .int .i64 x.2]] ++ cs).toArray w' (Ret fun v w'' => v = .bool (p x) ∧ New w' w'' [])) : Calls Try.prog 76 #[.slice A (n) (c), .func (.func Fc) #[] cs.toArray] w (Ret fun rv w' => rv = .bool (decide (∃ x ∈ es, p x = true)) ∧ New w w' []) := by
  have oA := hA.atB
  subst eA
  refine fn_enter (args := [.slice A (es.length) (c), .func (.func Fc) #[] cs.toArray]) Try.func76 rfl Try.ntmps76 rfl (SS.start w) ?_
  refine cw_seq ?_
  refine cw_region ?_
  refine wl_v (ov_assign rfl) rfl rfl rfl ?_
  refine wl_nil ?_
  refine ce_then ?_
  refine cw_seq ?_
  refine cw_region ?_
  refine wl_v (ov_move rfl) rfl rfl rfl ?_
  refine wl_v (ov_move rfl) rfl rfl rfl ?_
  refine wl_r (or_call (fv := []) (vs := [.slice A (es.length) (c), .func (.func Fc) #[] cs.toArray]) (cs := []) en123 rfl rfl (call_v (fun w hw => indexFuncE_c w A es.length c es Fc cs p ((holds_old oA) w hw) rfl lA (by first | assumption | omega | (simp; omega)) (by first | assumption | omega | (simp; omega)) (fun x hx w' hb => hf x hx w' (hw.below.trans (hb.mono hw.le)))))) rfl rfl (kt0 rfl ?_)
  refine wl_if (ov_geq rfl rfl) rfl rfl rfl (fun c8 => ?_) (fun c8 => ?_)
  ·
    refine wl_v (ov_assign rfl) rfl rfl rfl ?_
    refine wl_nil ?_
    refine ce_then ?_
    refine cw_ret ?_
    refine ce_results (v := .bool true) (res1 rfl (rv_t rfl)) (fun w' hw => ?_)
    exact ⟨(bt (idxF_nonneg.1 c8)), (Keep.nil.ss hw).to_new⟩
  ·
    refine wl_v (ov_assign rfl) rfl rfl rfl ?_
    refine wl_nil ?_
    refine ce_then ?_
    refine cw_ret ?_
    refine ce_results (v := .bool false) (res1 rfl (rv_t rfl)) (fun w' hw => ?_)
    exact ⟨(bf (fun h => c8 (idxF_nonneg.2 h))), (Keep.nil.ss hw).to_new⟩
set_option maxRecDepth 100000 in
theorem isPart1_c (w : World) (a : Int) (b : Int) (g1 : Nat) (N : Int) (A : Option Addr) (n : Nat) (c : Nat) (es : List Ed) (hg1 : At w (some ⟨g1, 0, none⟩) [.int .i64 (N), .slice A (n) (c)]) (hA : At w A (cells fE es)) (hq : es.length = n) (lA : n ≤ c) (hs : n ≤ 1048576) : Calls Try.prog 77 #[.agg #[.int .i64 (a), .int .i64 (b)], elp (some ⟨g1, 0, none⟩) (0)] w (Ret fun rv w' => rv = .bool (!decide ((a, b) ∈ es)) ∧ New w w' []) := by
  have og1 := hg1.atB
  have oA := hA.atB
  refine fn_enter (args := [.agg #[.int .i64 (a), .int .i64 (b)], elp (some ⟨g1, 0, none⟩) (0)]) Try.func77 rfl Try.ntmps77 rfl (SS.start w) ?_
  refine cw_seq ?_
  refine cw_region ?_
  refine wl_r (or_box rfl rfl) rfl rfl (kt1 rfl (fun g2 => ?_))
  refine wl_v (ov_assign rfl) rfl rfl rfl ?_
  refine wl_nil ?_
  refine ce_then ?_
  refine cw_seq ?_
  refine cw_region ?_
  refine wl_v (ov_fieldAddr fI25_1 some_lit rfl) rfl rfl rfl ?_
  refine wl_v (ov_load tI23 (holds_old og1) rfl rfl) rfl rfl rfl ?_
  refine wl_v (ov_loadAgg (vs := [.int .i64 (a), .int .i64 (b)]) tI43 (holds_blk (List.Mem.head _)) rfl some_lit rfl rfl) rfl rfl rfl ?_
  refine wl_r (or_call (fv := []) (vs := [.slice A (n) (c), .agg #[.int .i64 (a), .int .i64 (b)]]) (cs := []) en78 rfl rfl (call_v (fun w hw => containsE_c w A n c es a b ((holds_old oA) w hw) hq lA (by omega)))) rfl rfl (kt_if rfl (fun c7 => ?_) (fun c7 => ?_))
  ·
    refine wl_v (ov_not rfl) rfl rfl rfl ?_
    refine wl_v (ov_assign rfl) rfl rfl rfl ?_
    refine wl_nil ?_
    refine ce_then ?_
    refine cw_ret ?_
    refine ce_results (v := .bool false) (res1 rfl (rv_t rfl)) (fun w' hw => ?_)
    exact ⟨(by rw [decide_eq_true c7]; rfl), (Keep.nil.ss hw).to_new⟩
  ·
    refine wl_v (ov_not rfl) rfl rfl rfl ?_
    refine wl_v (ov_assign rfl) rfl rfl rfl ?_
    refine wl_nil ?_
    refine ce_then ?_
    refine cw_ret ?_
    refine ce_results (v := .bool true) (res1 rfl (rv_t rfl)) (fun w' hw => ?_)
    exact ⟨(by rw [decide_eq_false c7]; rfl), (Keep.nil.ss hw).to_new⟩
set_option maxRecDepth 100000 in
theorem IsPartI_c (w : World) (N : Int) (A : Option Addr) (n : Nat) (c : Nat) (es : List (Int × Int)) (M : Int) (A2 : Option Addr) (n2 : Nat) (c2 : Nat) (fs : List (Int × Int)) (hA : At w A (cells fE es)) (eA : es.length = n) (lA : n ≤ c) (hA2 : At w A2 (cells fE fs)) (eA2 : fs.length = n2) (lA2 : n2 ≤ c2) (hs : es.length ≤ 1048576 ∧ fs.length ≤ 1048576) (hN : N ≤ 9223372036854775807 ∧ M ≤ 9223372036854775807) : Calls Try.prog 30 #[.agg #[.int .i64 (N), .slice A (n) (c)], .agg #[.int .i64 (M), .slice A2 (n2) (c2)]] w (Ret fun rv w' => rv = .bool (decide ((ValidG M fs ∧ ValidG N es ∧ M = N) ∧ ∀ e ∈ es, e ∈ fs)) ∧ New w w' []) := by
  have oA := hA.atB
  subst eA
  have oA2 := hA2.atB
  subst eA2
  refine fn_enter (args := [.agg #[.int .i64 (N), .slice A (es.length) (c)], .agg #[.int .i64 (M), .slice A2 (fs.length) (c2)]]) Try.func30 rfl Try.ntmps30 rfl (SS.start w) ?_
  refine cw_seq ?_
  refine cw_region ?_
  refine wl_r (or_box rfl rfl) rfl rfl (kt1 rfl (fun g2 => ?_))
  refine wl_r (or_box rfl rfl) rfl rfl (kt1 rfl (fun g3 => ?_))
  refine wl_v (ov_assign rfl) rfl rfl rfl ?_
  refine wl_nil ?_
  refine ce_then ?_
  refine cw_seq ?_
  refine cw_region ?_
  refine wl_v (ov_loadAgg (vs := [.int .i64 (M), .slice A2 (fs.length) (c2)]) tI25 (holds_blk (List.Mem.head _)) rfl some_lit rfl rfl) rfl rfl rfl ?_
  refine wl_v (ov_loadAgg (vs := [.int .i64 (N), .slice A (es.length) (c)]) tI25 (holds_blk (List.Mem.tail _ (List.Mem.head _))) rfl some_lit rfl rfl) rfl rfl rfl ?_
  refine wl_r (or_call (fv := []) (vs := [.agg #[.int .i64 (M), .slice A2 (fs.length) (c2)], .agg #[.int .i64 (N), .slice A (es.length) (c)]]) (cs := []) en75 rfl rfl (call_v (fun w hw => both_c w M A2 fs.length c2 fs N A es.length c es ((holds_old oA2) w hw) rfl lA2 ((holds_old oA) w hw) rfl lA (by first | assumption | omega | (simp; omega)) (by first | assumption | omega | (simp; omega))))) rfl rfl (kt_if rfl (fun c7 => ?_) (fun c7 => ?_))
  ·
    refine wl_v (ov_move rfl) rfl rfl rfl ?_
    refine wl_go rfl rfl ?_
    refine wl_v (ov_fieldAddr fI25_1 some_lit rfl) rfl rfl rfl ?_
    refine wl_go rfl rfl ?_
    refine wl_v (ov_load tI23 (holds_blk (List.Mem.tail _ (List.Mem.head _))) rfl rfl) rfl rfl rfl ?_
    refine wl_go rfl rfl ?_
    refine wl_v (ov_makeFunc (vs := #[elp (some ⟨g3, 0, none⟩) (0)]) rfl) rfl rfl rfl ?_
    refine wl_go rfl rfl ?_
    refine wl_r (or_call (fv := []) (vs := [.slice A (es.length) (c), .func (.func 77) #[] #[elp (some ⟨g3, 0, none⟩) (0)]]) (cs := []) en76 rfl rfl (call_v (fun w hw => containsFuncE_c w A es.length c es 77 ([elp (some ⟨g3, 0, none⟩) (0)]) (fun e : Ed => !decide (e ∈ fs)) ((holds_old oA) w hw) rfl lA (by first | assumption | omega | (simp; omega)) en77 (fun x hx w' hb => isPart1_c w' x.1 x.2 g3 M A2 fs.length c2 fs ((holds_blk (List.Mem.head _)) w' (hw.later hb)) ((holds_old oA2) w' (hw.later hb)) rfl lA2 (by omega))))) rfl rfl (kt_if rfl (fun c12 => ?_) (fun c12 => ?_))
    ·
      refine wl_go rfl rfl ?_
      refine wl_v (ov_not rfl) rfl rfl rfl ?_
      refine wl_v (ov_pick_t rfl rfl) rfl rfl rfl ?_
      refine wl_v (ov_assign rfl) rfl rfl rfl ?_
      refine wl_nil ?_
      refine ce_then ?_
      refine cw_ret ?_
      refine ce_results (v := .bool false) (res1 rfl (rv_t rfl)) (fun w' hw => ?_)
      exact ⟨(bf (fun h => by obtain ⟨x, hx, hp⟩ := c12; rw [decide_eq_true (h.2 x hx)] at hp; cases hp)), (Keep.nil.ss hw).to_new⟩
    ·
      refine wl_go rfl rfl ?_
      refine wl_v (ov_not rfl) rfl rfl rfl ?_
      refine wl_v (ov_pick_t rfl rfl) rfl rfl rfl ?_
      refine wl_v (ov_assign rfl) rfl rfl rfl ?_
      refine wl_nil ?_
      refine ce_then ?_
      refine cw_ret ?_
      refine ce_results (v := .bool true) (res1 rfl (rv_t rfl)) (fun w' hw => ?_)
      exact ⟨(bt ⟨c7, fun e he => by by_cases hq : e ∈ fs; exact hq; exact absurd ⟨e, he, by rw [decide_eq_false hq]; rfl⟩ c12⟩), (Keep.nil.ss hw).to_new⟩
  ·
    refine wl_v (ov_move rfl) rfl rfl rfl ?_
    refine wl_not rfl rfl rfl rfl rfl rfl ?_
    refine wl_not rfl rfl rfl rfl rfl rfl ?_
    refine wl_not rfl rfl rfl rfl rfl rfl ?_
    refine wl_not rfl rfl rfl rfl rfl rfl ?_
    refine wl_not rfl rfl rfl rfl rfl rfl ?_
    refine wl_v (ov_pick_f rfl rfl) rfl rfl rfl ?_
    refine wl_v (ov_assign rfl) rfl rfl rfl ?_
    refine wl_nil ?_
    refine ce_then ?_
    refine cw_ret ?_
    refine ce_results (v := .bool false) (res1 rfl (rv_t rfl)) (fun w' hw => ?_)
    exact ⟨(bf (fun h => c7 h.1)), (Keep.nil.ss hw).to_new⟩
set_option maxRecDepth 100000 in
theorem equalEdges_c (w : World) (A : Option Addr) (n : Nat) (c : Nat) (es : List (Int × Int)) (A2 : Option Addr) (n2 : Nat) (c2 : Nat) (fs : List (Int × Int)) (hA : At w A (cells fE es)) (eA : es.length = n) (lA : n ≤ c) (hA2 : At w A2 (cells fE fs)) (eA2 : fs.length = n2) (lA2 : n2 ≤ c2) (hs : es.length ≤ 1048576) : Calls Try.prog 19 #[.slice A (n) (c), .slice A2 (n2) (c2)] w (Ret fun rv w' => rv = .bool (decide (es = fs)) ∧ New w w' []) := by
  have oA := hA.atB
  subst eA
  have oA2 := hA2.atB
  subst eA2
  refine fn_enter (args := [.slice A (es.length) (c), .slice A2 (fs.length) (c2)]) Try.func19 rfl Try.ntmps19 rfl (SS.start w) ?_
  refine cw_seq ?_
  refine cw_region ?_
  refine wl_v (ov_assign rfl) rfl rfl rfl ?_
  refine wl_nil ?_
  refine ce_then ?_
  refine cw_seq ?_
  refine cw_seq ?_
  refine cw_region ?_
  refine wl_v (ov_move rfl) rfl rfl rfl ?_
  refine wl_v (ov_len (sliceI_spec sI23) rfl) rfl rfl rfl ?_
  refine wl_v (ov_move rfl) rfl rfl rfl ?_
  refine wl_v (ov_len (sliceI_spec sI23) rfl) rfl rfl rfl ?_
  refine wl_if (ov_neq rfl rfl) rfl rfl rfl (fun c10 => ?_) (fun c10 => ?_)
  ·
    refine wl_nil ?_
    refine ce_then ?_
    refine cw_true rfl ?_
    refine cw_seq ?_
    refine cw_region ?_
    refine wl_v (ov_assign rfl) rfl rfl rfl ?_
    refine wl_nil ?_
    refine ce_then ?_
    refine cw_ret ?_
    refine ce_then_ret ?_
    refine ce_results (v := .bool false) (res1 rfl (rv_t rfl)) (fun w' hw => ?_)
    exact ⟨(bf (fun h => c10 (by rw [h]))), (Keep.nil.ss hw).to_new⟩
  ·
    refine wl_nil ?_
    refine ce_then ?_
    refine cw_false rfl ?_
    refine cw_skip ?_
    refine ce_then ?_
    refine cw_seq ?_
    refine cw_seq ?_
    refine cw_region ?_
    refine wl_v (ov_assign rfl) rfl rfl rfl ?_
    refine wl_nil ?_
    refine ce_then ?_
    refine cw_block ?_
    refine cw_loop1 (fun (k : Nat) => [(0, .slice A (es.length) (c)), (1, .slice A2 (fs.length) (c2)), (5, .int .i64 (((k : Nat) : Int)))]) (fun (k : Nat) => []) (fun (k : Nat) => k ≤ es.length ∧ es.take k = fs.take k) (fun (k : Nat) => es.length - k) 0 ⟨by omega, rfl⟩ (.cons rfl (.cons rfl (.cons (congrArg (fun z => some (Value.int .i64 z)) (show 0 = ((0 : Nat) : Int) by first | omega | rfl | (simp; done))) (.nil)))) (.nil) ?_
    intro R0 k hk hR0
    obtain ⟨hk1, hk2⟩ := hk
    refine cw_seq ?_
    refine cw_seq ?_
    refine cw_region ?_
    refine wl_v (ov_move rfl) rfl rfl rfl ?_
    refine wl_v (ov_move rfl) rfl rfl rfl ?_
    refine wl_v (ov_len (sliceI_spec sI23) rfl) rfl rfl rfl ?_
    refine wl_if (ov_lss rfl rfl) rfl rfl rfl (fun c14 => ?_) (fun c14 => ?_)
    ·
      refine wl_nil ?_
      refine ce_then ?_
      refine cw_true rfl ?_
      refine cw_skip ?_
      refine ce_then ?_
      refine cw_seq ?_
      refine cw_block ?_
      refine cw_seq ?_
      refine cw_draw mixO [] (.nil) rfl ?_
      refine wg_takep (i := 0) rfl (ov_move rfl) rfl rfl rfl (by kernel_rfl) (by kernel_rfl) (by kernel_rfl) rfl ?_
      refine wg_takep (i := 1) rfl (ov_move rfl) rfl rfl rfl (by kernel_rfl) (by kernel_rfl) (by kernel_rfl) rfl ?_
      refine wg_take (i := 2) rfl (ov_index (k := k) (c := c) sI23 tI43 rfl rfl (some_holds (q := k * 2) (holds_old oA) (by rw [cells_length fE_len]; have hlt : k < es.length := (by first | omega | (simp; omega)); omega)) (show k < es.length from (by first | omega | (simp; omega)))) rfl rfl rfl (by kernel_rfl) (by kernel_rfl) (by kernel_rfl) (by kernel_rfl) ?_
      refine wg_take (i := 3) rfl (ov_loadAgg (vs := [.int .i64 ((es.getD k (0, 0)).1), .int .i64 ((es.getD k (0, 0)).2)]) tI43 (holds_old oA) rfl (some_holds (q := k * 2) (holds_old oA) (by rw [cells_length fE_len]; have hlt : k < es.length := (by first | omega | (simp; omega)); omega)) (cells_elem fE_len (0, 0) (show k < es.length from (by first | omega | (simp; omega)))) rfl) rfl rfl rfl (by kernel_rfl) (by kernel_rfl) (by kernel_rfl) (by kernel_rfl) ?_
      refine wg_takep (i := 4) rfl (ov_move rfl) rfl rfl rfl (by kernel_rfl) (by kernel_rfl) (by kernel_rfl) rfl ?_
      refine wg_takep (i := 5) rfl (ov_move rfl) rfl rfl rfl (by kernel_rfl) (by kernel_rfl) (by kernel_rfl) rfl ?_
      refine wg_take (i := 6) rfl (ov_index (k := k) (c := c2) sI23 tI43 rfl rfl (some_holds (q := k * 2) (holds_old oA2) (by rw [cells_length fE_len]; have hlt : k < fs.length := (by first | omega | (simp; omega)); omega)) (show k < fs.length from (by first | omega | (simp; omega)))) rfl rfl rfl (by kernel_rfl) (by kernel_rfl) (by kernel_rfl) (by kernel_rfl) ?_
      refine wg_take (i := 7) rfl (ov_loadAgg (vs := [.int .i64 ((fs.getD k (0, 0)).1), .int .i64 ((fs.getD k (0, 0)).2)]) tI43 (holds_old oA2) rfl (some_holds (q := k * 2) (holds_old oA2) (by rw [cells_length fE_len]; have hlt : k < fs.length := (by first | omega | (simp; omega)); omega)) (cells_elem fE_len (0, 0) (show k < fs.length from (by first | omega | (simp; omega)))) rfl) rfl rfl rfl (by kernel_rfl) (by kernel_rfl) (by kernel_rfl) (by kernel_rfl) ?_
      refine wg_takep_if (i := 8) rfl (ov_neqE2 eqE43 rfl rfl) rfl rfl rfl (by kernel_rfl) (by kernel_rfl) (by kernel_rfl) rfl (fun c25 => ?_) (fun c25 => ?_)
      ·
        refine wg_done (by kernel_rfl) ?_
        refine ce_then ?_
        refine cw_true rfl ?_
        refine cw_seq ?_
        refine cw_region ?_
        refine wl_v (ov_assign rfl) rfl rfl rfl ?_
        refine wl_nil ?_
        refine ce_then ?_
        refine cw_ret ?_
        refine ce_block_ret ?_
        refine ce_then_ret ?_
        refine ce_then_ret ?_
        refine ce_block_ret ?_
        refine ce_then_ret ?_
        refine ce_results (v := .bool false) (res1 rfl (rv_t rfl)) (fun w' hw => ?_)
        exact ⟨(bf (fun h => c25 (by rw [h]; exact ⟨rfl, rfl⟩))), (Keep.nil.ss hw).to_new⟩
      ·
        refine wg_done (by kernel_rfl) ?_
        refine ce_then ?_
        refine cw_false rfl ?_
        refine cw_skip ?_
        refine ce_block ?_
        refine ce_then ?_
        refine cw_region ?_
        refine wl_v (ov_move rfl) rfl rfl rfl ?_
        refine wl_v (ov_add (r := ((k + 1 : Nat) : Int)) rfl rfl rfl (by omega)) rfl rfl rfl ?_
        refine wl_v (ov_assign rfl) rfl rfl rfl ?_
        refine wl_nil ?_
        exact fun ac_ w_ hs_ => hR0 (k + 1) ⟨by omega, take_eq_step (0, 0) (by omega) (by omega) hk2 (Prod.ext (by omega) (by omega))⟩ (by omega) ac_ w_ (hs_.weaken (.cons rfl (.cons rfl (.cons rfl (.nil)))) (.nil))
    ·
      refine wl_nil ?_
      refine ce_then ?_
      refine cw_false rfl ?_
      refine cw_exit ?_
      refine ce_then_exit ?_
      refine ce_then_exit ?_
      refine ce_hit ?_
      refine ce_then ?_
      refine cw_seq ?_
      refine cw_region ?_
      refine wl_v (ov_assign rfl) rfl rfl rfl ?_
      refine wl_nil ?_
      refine ce_then ?_
      refine cw_ret ?_
      refine ce_results (v := .bool true) (res1 rfl (rv_t rfl)) (fun w' hw => ?_)
      exact ⟨(bt (by rwa [List.take_of_length_le (by omega), List.take_of_length_le (by omega)] at hk2)), (Keep.nil.ss hw).to_new⟩
set_option maxRecDepth 100000 in
theorem equalGraph_c (w : World) (N : Int) (A : Option Addr) (n : Nat) (c : Nat) (es : List (Int × Int)) (M : Int) (A2 : Option Addr) (n2 : Nat) (c2 : Nat) (fs : List (Int × Int)) (hA : At w A (cells fE es)) (eA : es.length = n) (lA : n ≤ c) (hA2 : At w A2 (cells fE fs)) (eA2 : fs.length = n2) (lA2 : n2 ≤ c2) (hs : es.length ≤ 1048576 ∧ fs.length ≤ 1048576) : Calls Try.prog 28 #[.agg #[.int .i64 (N), .slice A (n) (c)], .agg #[.int .i64 (M), .slice A2 (n2) (c2)]] w (Ret fun rv w' => rv = .bool (decide (N = M ∧ es = fs)) ∧ New w w' []) := by
  have oA := hA.atB
  subst eA
  have oA2 := hA2.atB
  subst eA2
  refine fn_enter (args := [.agg #[.int .i64 (N), .slice A (es.length) (c)], .agg #[.int .i64 (M), .slice A2 (fs.length) (c2)]]) Try.func28 rfl Try.ntmps28 rfl (SS.start w) ?_
  refine cw_seq ?_
  refine cw_region ?_
  refine wl_r (or_box rfl rfl) rfl rfl (kt1 rfl (fun g2 => ?_))
  refine wl_r (or_box rfl rfl) rfl rfl (kt1 rfl (fun g3 => ?_))
  refine wl_v (ov_assign rfl) rfl rfl rfl ?_
  refine wl_nil ?_
  refine ce_then ?_
  refine cw_seq ?_
  refine cw_region ?_
  refine wl_v (ov_fieldAddr fI25_0 some_lit rfl) rfl rfl rfl ?_
  refine wl_v (ov_load tI3 (holds_blk (List.Mem.tail _ (List.Mem.head _))) rfl rfl) rfl rfl rfl ?_
  refine wl_v (ov_fieldAddr fI25_0 some_lit rfl) rfl rfl rfl ?_
  refine wl_v (ov_load tI3 (holds_blk (List.Mem.head _)) rfl rfl) rfl rfl rfl ?_
  refine wl_if (ov_eql rfl rfl) rfl rfl rfl (fun c9 => ?_) (fun c9 => ?_)
  ·
    refine wl_v (ov_move rfl) rfl rfl rfl ?_
    refine wl_go rfl rfl ?_
    refine wl_v (ov_fieldAddr fI25_1 some_lit rfl) rfl rfl rfl ?_
    refine wl_go rfl rfl ?_
    refine wl_v (ov_load tI23 (holds_blk (List.Mem.tail _ (List.Mem.head _))) rfl rfl) rfl rfl rfl ?_
    refine wl_go rfl rfl ?_
    refine wl_v (ov_fieldAddr fI25_1 some_lit rfl) rfl rfl rfl ?_
    refine wl_go rfl rfl ?_
    refine wl_v (ov_load tI23 (holds_blk (List.Mem.head _)) rfl rfl) rfl rfl rfl ?_
    refine wl_go rfl rfl ?_
    refine wl_r (or_call (fv := []) (vs := [.slice A (es.length) (c), .slice A2 (fs.length) (c2)]) (cs := []) en19 rfl rfl (call_v (fun w hw => equalEdges_c w A es.length c es A2 fs.length c2 fs ((holds_old oA) w hw) rfl lA ((holds_old oA2) w hw) rfl lA2 (by first | assumption | omega | (simp; omega))))) rfl rfl (kt_if rfl (fun c15 => ?_) (fun c15 => ?_))
    ·
      refine wl_v (ov_pick_t rfl rfl) rfl rfl rfl ?_
      refine wl_v (ov_assign rfl) rfl rfl rfl ?_
      refine wl_nil ?_
      refine ce_then ?_
      refine cw_ret ?_
      refine ce_results (v := .bool true) (res1 rfl (rv_t rfl)) (fun w' hw => ?_)
      exact ⟨(bt ⟨c9, c15⟩), (Keep.nil.ss hw).to_new⟩
    ·
      refine wl_v (ov_pick_t rfl rfl) rfl rfl rfl ?_
      refine wl_v (ov_assign rfl) rfl rfl rfl ?_
      refine wl_nil ?_
      refine ce_then ?_
      refine cw_ret ?_
      refine ce_results (v := .bool false) (res1 rfl (rv_t rfl)) (fun w' hw => ?_)
      exact ⟨(bf (fun h => c15 h.2)), (Keep.nil.ss hw).to_new⟩
  ·
    refine wl_v (ov_move rfl) rfl rfl rfl ?_
    refine wl_not rfl rfl rfl rfl rfl rfl ?_
    refine wl_not rfl rfl rfl rfl rfl rfl ?_
    refine wl_not rfl rfl rfl rfl rfl rfl ?_
    refine wl_not rfl rfl rfl rfl rfl rfl ?_
    refine wl_not rfl rfl rfl rfl rfl rfl ?_
    refine wl_v (ov_pick_f rfl rfl) rfl rfl rfl ?_
    refine wl_v (ov_assign rfl) rfl rfl rfl ?_
    refine wl_nil ?_
    refine ce_then ?_
    refine cw_ret ?_
    refine ce_results (v := .bool false) (res1 rfl (rv_t rfl)) (fun w' hw => ?_)
    exact ⟨(bf (fun h => c9 h.1)), (Keep.nil.ss hw).to_new⟩
end Go.Proofs.Ytfjgfocjogfodaa.W23
