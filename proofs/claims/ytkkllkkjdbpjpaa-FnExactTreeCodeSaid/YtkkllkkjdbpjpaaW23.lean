/- Walks of functions of the given program: each returns what its Lean function says and leaves the memory that was there as it was. Conditions: those of each theorem. -/
import Derived.Test.YtkkllkkjdbpjpaaSm
import Derived.Test.YtkkllkkjdbpjpaaProg
import Derived.Test.YtkkllkkjdbpjpaaPl
import Derived.Test.YtkkllkkjdbpjpaaPo
import Derived.Test.YtkkllkkjdbpjpaaPd
import Derived.Test.YtkkllkkjdbpjpaaPe
import Derived.Test.YtkkllkkjdbpjpaaPh
import Derived.Test.YtkkllkkjdbpjpaaPm
import Derived.Test.YtkkllkkjdbpjpaaPc
import Derived.Test.YtkkllkkjdbpjpaaPs
import Derived.Test.YtkkllkkjdbpjpaaPt
import Derived.Test.YtkkllkkjdbpjpaaPu
import Derived.Test.YtkkllkkjdbpjpaaPv
import Derived.Test.YtkkllkkjdbpjpaaPw
import Derived.Test.YtkkllkkjdbpjpaaPx
import Derived.Test.YtkkllkkjdbpjpaaPy
import Derived.Test.YtkkllkkjdbpjpaaPz
import Derived.Test.YtkkllkkjdbpjpaaPr
import Derived.Test.YtkkllkkjdbpjpaaPa
import Derived.Test.YtkkllkkjdbpjpaaPn
import Derived.Test.YtkkllkkjdbpjpaaPj
import Derived.Test.YtkkllkkjdbpjpaaPq
import Derived.Test.YtkkllkkjdbpjpaaSp
import Derived.Test.YtkkllkkjdbpjpaaPp
import Derived.Test.YtkkllkkjdbpjpaaSs
import Derived.Test.YtkkllkkjdbpjpaaSr
import Derived.Test.YtkkllkkjdbpjpaaPb
import Derived.Test.YtkkllkkjdbpjpaaSe
import Derived.Test.YtkkllkkjdbpjpaaSf
import Derived.Test.YtkkllkkjdbpjpaaT
import Derived.KernelRfl
namespace Go.Proofs.Ytkkllkkjdbpjpaa.W23
open Go.Sx Go.RowKit Go.Proofs.Ytkkllkkjdbpjpaa.T
open Go.Plain
set_option linter.unusedVariables false
set_option maxRecDepth 100000 in
theorem degreesI_c (w : World) (m : Nat) (A : Option Addr) (n : Nat) (c : Nat) (es : List (Int × Int)) (hA : At w A (cells fE es)) (eA : es.length = n) (lA : n ≤ c) (hs : es.length ≤ 1000) (hm : m ≤ 10) (he : ∀ e ∈ es, 0 ≤ e.1 ∧ e.1 < e.2 ∧ e.2 < (m : Int)) : Calls Try.prog 33 #[.agg #[.int .i64 (((m : Nat) : Int)), .slice A (n) (c)]] w (Ret fun rv w' => ∃ g, (True) ∧ rv = .slice (some ⟨g, 0, none⟩) (m) (m) ∧ New w w' [row 3 1 (some ⟨g, 0, none⟩) (m) (m) (cells fI (degs m es))]) := by
  have oA := hA.atB
  subst eA
  refine fn_enter (args := [.agg #[.int .i64 (((m : Nat) : Int)), .slice A (es.length) (c)]]) Try.func33 rfl Try.ntmps33 rfl (SS.start w) ?_
  refine cw_seq ?_
  refine cw_region ?_
  refine wl_r (or_box rfl rfl) rfl rfl (kt1 rfl (fun g1 => ?_))
  refine wl_v (ov_assign rfl) rfl rfl rfl ?_
  refine wl_nil ?_
  refine ce_then ?_
  refine cw_seq ?_
  refine cw_region ?_
  refine wl_v (ov_fieldAddr fI25_0 some_lit rfl) rfl rfl rfl ?_
  refine wl_v (ov_load tI3 (holds_blk (List.Mem.head _)) rfl rfl) rfl rfl rfl ?_
  refine wl_r (or_makeSlice (m := m) sI38 tI3 rfl rfl (made_fI _) (by omega) (show m ≤ maxLen by simp only [maxLen]; omega)) rfl rfl (kt1 rfl (fun g8 => ?_))
  refine wl_v (ov_assign rfl) rfl rfl rfl ?_
  refine wl_nil ?_
  refine ce_then ?_
  refine cw_seq ?_
  refine cw_seq ?_
  refine cw_region ?_
  refine wl_v (ov_fieldAddr fI25_1 some_lit rfl) rfl rfl rfl ?_
  refine wl_v (ov_load tI23 (holds_blk (List.Mem.tail _ (List.Mem.head _))) rfl rfl) rfl rfl rfl ?_
  refine wl_v (ov_len (sliceI_spec sI23) rfl) rfl rfl rfl ?_
  refine wl_v (ov_move rfl) rfl rfl rfl ?_
  refine wl_nil ?_
  refine ce_then ?_
  refine cw_block ?_
  refine cw_loop1 (fun (k : Nat) => [(2, .slice none (0) (0)), (3, .slice (some ⟨g8, 0, none⟩) (m) (m)), (10, .slice A (es.length) (c)), (11, .int .i64 (((es.length : Nat) : Int))), (12, .int .i64 (((k : Nat) : Int)))]) (fun (k : Nat) => [row 3 1 (some ⟨g8, 0, none⟩) (m) (m) (cells fI (degsTo m es k)), blk g1 [.int .i64 (((m : Nat) : Int)), .slice A (es.length) (c)] 25]) (fun (k : Nat) => k ≤ es.length) (fun (k : Nat) => es.length - k) 0 (by omega) (.cons rfl (.cons rfl (.cons rfl (.cons rfl (.cons (congrArg (fun z => some (Value.int .i64 z)) (show 0 = ((0 : Nat) : Int) by first | omega | rfl | (simp; done))) (.nil)))))) (.consE (show row 3 1 (some ⟨g8, 0, none⟩) (m) (m) (cells fI (List.replicate m 0)) = row 3 1 (some ⟨g8, 0, none⟩) (m) (m) (cells fI (degsTo m es 0)) by rfl) (.head) (.cons (.head) (.nil))) ?_
  intro R0 k hk hR0
  have hdl := degsTo_length m es k
  refine cw_seq ?_
  refine cw_region ?_
  refine wl_if (ov_lss rfl rfl) rfl rfl rfl (fun c13 => ?_) (fun c13 => ?_)
  ·
    refine wl_nil ?_
    refine ce_then ?_
    refine cw_seq ?_
    refine cw_true rfl ?_
    refine cw_skip ?_
    refine ce_then ?_
    refine cw_seq ?_
    refine cw_block ?_
    refine cw_seq ?_
    refine cw_region ?_
    refine wl_v (ov_index (k := k) (c := c) sI23 tI65 rfl rfl (some_holds (q := k * 2) (holds_old oA) (by rw [cells_length fE_len]; have hlt : k < es.length := (by first | omega | (rw [List.length_set]; omega)); omega)) (show k < es.length from (by first | omega | (rw [List.length_set]; omega)))) rfl rfl rfl ?_
    refine wl_v (ov_loadAgg (vs := [.int .i64 ((es.getD k (0, 0)).1), .int .i64 ((es.getD k (0, 0)).2)]) tI65 (holds_old oA) rfl (some_holds (q := k * 2) (holds_old oA) (by rw [cells_length fE_len]; have hlt : k < es.length := (by first | omega | (rw [List.length_set]; omega)); omega)) (cells_elem fE_len (0, 0) (show k < es.length from (by first | omega | (rw [List.length_set]; omega)))) rfl) rfl rfl rfl ?_
    have hek := he _ (getD_mem (xs := es) (k := k) (0, 0) (by omega))
    have hb1 := degsTo_bd he k (es.getD k (0, 0)).1.toNat
    have hb2 := degsTo_bd he k (es.getD k (0, 0)).2.toNat
    refine wl_r (or_alloc tI65 rfl) rfl rfl (kt1 rfl (fun g5 => ?_))
    refine wl_r0 (or_store_blk (vs := [.int .i64 ((es.getD k (0, 0)).1), .int .i64 ((es.getD k (0, 0)).2)]) (cs' := [.int .i64 ((es.getD k (0, 0)).1), .int .i64 ((es.getD k (0, 0)).2)]) (.head) tI65 rfl rfl rfl rfl (Nat.le_of_ble_eq_true rfl) rfl) rfl rfl (kn0 ?_)
    refine wl_nil ?_
    refine ce_then ?_
    refine cw_seq ?_
    refine cw_region ?_
    refine wl_v (ov_move rfl) rfl rfl rfl ?_
    refine wl_v (ov_fieldAddr fI65_0 some_lit rfl) rfl rfl rfl ?_
    refine wl_v (ov_load tI3 (holds_blk (List.Mem.head _)) rfl rfl) rfl rfl rfl ?_
    refine wl_v (ov_indexg sI38 tI3 rfl rfl (some_holds (q := (((es.getD k (0, 0)).1).toNat) * 1) (holds_row (List.Mem.tail _ (List.Mem.head _))) (by rw [cells_length fI_len]; have hlt : ((es.getD k (0, 0)).1).toNat < (degsTo m es k).length := (by first | omega | (rw [List.length_set]; omega)); omega)) (by first | omega | (rw [List.length_set]; omega)) (show ((es.getD k (0, 0)).1).toNat < m from (by first | omega | (rw [List.length_set]; omega)))) rfl rfl rfl ?_
    refine wl_v (ov_load tI3 (holds_row (List.Mem.tail _ (List.Mem.head _))) rfl (get_fI (show ((es.getD k (0, 0)).1).toNat < (degsTo m es k).length from (by first | omega | (rw [List.length_set]; omega))))) rfl rfl rfl ?_
    refine wl_v (ov_add (r := ((degsTo m es k).getD (((es.getD k (0, 0)).1).toNat) 0) + 1) rfl rfl rfl (by omega)) rfl rfl rfl ?_
    refine wl_v (ov_indexg sI38 tI3 rfl rfl (some_holds (q := (((es.getD k (0, 0)).1).toNat) * 1) (holds_row (List.Mem.tail _ (List.Mem.head _))) (by rw [cells_length fI_len]; have hlt : ((es.getD k (0, 0)).1).toNat < (degsTo m es k).length := (by first | omega | (rw [List.length_set]; omega)); omega)) (by first | omega | (rw [List.length_set]; omega)) (show ((es.getD k (0, 0)).1).toNat < m from (by first | omega | (rw [List.length_set]; omega)))) rfl rfl rfl ?_
    refine wl_r0 (or_store_row (vs := [.int .i64 (((degsTo m es k).getD (((es.getD k (0, 0)).1).toNat) 0) + 1)]) (cs' := cells fI ((degsTo m es k).set (((es.getD k (0, 0)).1).toNat) (((degsTo m es k).getD (((es.getD k (0, 0)).1).toNat) 0) + 1))) (.tail .head) tI3 rfl rfl rfl rfl (by rw [cells_length fI_len]; have hlt := (show ((es.getD k (0, 0)).1).toNat < (degsTo m es k).length from (by first | omega | (rw [List.length_set]; omega))); simp only [List.length_cons, List.length_nil]; omega) (by simp) (cells_splice fI_len (show ((es.getD k (0, 0)).1).toNat < (degsTo m es k).length from (by first | omega | (rw [List.length_set]; omega))) (((degsTo m es k).getD (((es.getD k (0, 0)).1).toNat) 0) + 1))) rfl rfl (kn0 ?_)
    refine wl_nil ?_
    refine ce_then ?_
    refine cw_region ?_
    refine wl_v (ov_move rfl) rfl rfl rfl ?_
    refine wl_v (ov_fieldAddr fI65_1 some_lit rfl) rfl rfl rfl ?_
    refine wl_v (ov_load tI3 (holds_blk (List.Mem.tail _ (List.Mem.head _))) rfl rfl) rfl rfl rfl ?_
    refine wl_v (ov_indexg sI38 tI3 rfl rfl (some_holds (q := (((es.getD k (0, 0)).2).toNat) * 1) (holds_row (List.Mem.head _)) (by rw [cells_length fI_len]; have hlt : ((es.getD k (0, 0)).2).toNat < ((degsTo m es k).set (((es.getD k (0, 0)).1).toNat) (((degsTo m es k).getD (((es.getD k (0, 0)).1).toNat) 0) + 1)).length := (by first | omega | (rw [List.length_set]; omega)); omega)) (by first | omega | (rw [List.length_set]; omega)) (show ((es.getD k (0, 0)).2).toNat < m from (by first | omega | (rw [List.length_set]; omega)))) rfl rfl rfl ?_
    refine wl_v (ov_load tI3 (holds_row (List.Mem.head _)) rfl (get_fI (show ((es.getD k (0, 0)).2).toNat < ((degsTo m es k).set (((es.getD k (0, 0)).1).toNat) (((degsTo m es k).getD (((es.getD k (0, 0)).1).toNat) 0) + 1)).length from (by first | omega | (rw [List.length_set]; omega))))) rfl rfl rfl ?_
    have hb3 : (((degsTo m es k).set (((es.getD k (0, 0)).1).toNat) (((degsTo m es k).getD (((es.getD k (0, 0)).1).toNat) 0) + 1)).getD (((es.getD k (0, 0)).2).toNat) 0) = (degsTo m es k).getD (es.getD k (0, 0)).2.toNat 0 := by rw [getD_setI (by omega), if_neg (by omega)]
    refine wl_v (ov_add (r := (((degsTo m es k).set (((es.getD k (0, 0)).1).toNat) (((degsTo m es k).getD (((es.getD k (0, 0)).1).toNat) 0) + 1)).getD (((es.getD k (0, 0)).2).toNat) 0) + 1) rfl rfl rfl (by omega)) rfl rfl rfl ?_
    refine wl_v (ov_indexg sI38 tI3 rfl rfl (some_holds (q := (((es.getD k (0, 0)).2).toNat) * 1) (holds_row (List.Mem.head _)) (by rw [cells_length fI_len]; have hlt : ((es.getD k (0, 0)).2).toNat < ((degsTo m es k).set (((es.getD k (0, 0)).1).toNat) (((degsTo m es k).getD (((es.getD k (0, 0)).1).toNat) 0) + 1)).length := (by first | omega | (rw [List.length_set]; omega)); omega)) (by first | omega | (rw [List.length_set]; omega)) (show ((es.getD k (0, 0)).2).toNat < m from (by first | omega | (rw [List.length_set]; omega)))) rfl rfl rfl ?_
    refine wl_r0 (or_store_row (vs := [.int .i64 ((((degsTo m es k).set (((es.getD k (0, 0)).1).toNat) (((degsTo m es k).getD (((es.getD k (0, 0)).1).toNat) 0) + 1)).getD (((es.getD k (0, 0)).2).toNat) 0) + 1)]) (cs' := cells fI (((degsTo m es k).set (((es.getD k (0, 0)).1).toNat) (((degsTo m es k).getD (((es.getD k (0, 0)).1).toNat) 0) + 1)).set (((es.getD k (0, 0)).2).toNat) ((((degsTo m es k).set (((es.getD k (0, 0)).1).toNat) (((degsTo m es k).getD (((es.getD k (0, 0)).1).toNat) 0) + 1)).getD (((es.getD k (0, 0)).2).toNat) 0) + 1))) (.head) tI3 rfl rfl rfl rfl (by rw [cells_length fI_len]; have hlt := (show ((es.getD k (0, 0)).2).toNat < ((degsTo m es k).set (((es.getD k (0, 0)).1).toNat) (((degsTo m es k).getD (((es.getD k (0, 0)).1).toNat) 0) + 1)).length from (by first | omega | (rw [List.length_set]; omega))); simp only [List.length_cons, List.length_nil]; omega) (by simp) (cells_splice fI_len (show ((es.getD k (0, 0)).2).toNat < ((degsTo m es k).set (((es.getD k (0, 0)).1).toNat) (((degsTo m es k).getD (((es.getD k (0, 0)).1).toNat) 0) + 1)).length from (by first | omega | (rw [List.length_set]; omega))) ((((degsTo m es k).set (((es.getD k (0, 0)).1).toNat) (((degsTo m es k).getD (((es.getD k (0, 0)).1).toNat) 0) + 1)).getD (((es.getD k (0, 0)).2).toNat) 0) + 1))) rfl rfl (kn0 ?_)
    refine wl_nil ?_
    refine ce_block ?_
    refine ce_then ?_
    refine cw_region ?_
    refine wl_v (ov_add (r := ((k + 1 : Nat) : Int)) rfl rfl rfl (by omega)) rfl rfl rfl ?_
    refine wl_v (ov_move rfl) rfl rfl rfl ?_
    refine wl_nil ?_
    exact fun ac_ w_ hs_ => hR0 (k + 1) (by omega) (by omega) ac_ w_ (hs_.weaken (.cons rfl (.cons rfl (.cons rfl (.cons rfl (.cons rfl (.nil)))))) (.consE (show row 3 1 (some ⟨g8, 0, none⟩) (m) (m) (cells fI (((degsTo m es k).set (((es.getD k (0, 0)).1).toNat) (((degsTo m es k).getD (((es.getD k (0, 0)).1).toNat) 0) + 1)).set (((es.getD k (0, 0)).2).toNat) ((((degsTo m es k).set (((es.getD k (0, 0)).1).toNat) (((degsTo m es k).getD (((es.getD k (0, 0)).1).toNat) 0) + 1)).getD (((es.getD k (0, 0)).2).toNat) 0) + 1))) = row 3 1 (some ⟨g8, 0, none⟩) (m) (m) (cells fI (degsTo m es (k + 1))) by rw [degsTo_succ (by omega)] <;> rfl) (.head) (.cons (.tail .head) (.nil))))
  ·
    refine wl_nil ?_
    refine ce_then ?_
    refine cw_seq ?_
    refine cw_false rfl ?_
    refine cw_exit ?_
    refine ce_then_exit ?_
    refine ce_then_exit ?_
    refine ce_hit ?_
    refine ce_then ?_
    refine cw_seq ?_
    refine cw_region ?_
    refine wl_v (ov_move rfl) rfl rfl rfl ?_
    refine wl_v (ov_assign rfl) rfl rfl rfl ?_
    refine wl_nil ?_
    refine ce_then ?_
    refine cw_ret ?_
    refine ce_results (v := .slice (some ⟨g8, 0, none⟩) (m) (m)) (res1 rfl (rv_t rfl)) (fun w' hw => ?_)
    exact ⟨g8, trivial, rfl, ((.consE (show row 3 1 (some ⟨g8, 0, none⟩) (m) (m) (cells fI (degsTo m es k)) = row 3 1 (some ⟨g8, 0, none⟩) (m) (m) (cells fI (degs m es)) by rw [degs, show es.length = k from by omega]) (.head) (.nil) : Keep _ _).ss hw).to_new⟩
end Go.Proofs.Ytkkllkkjdbpjpaa.W23
