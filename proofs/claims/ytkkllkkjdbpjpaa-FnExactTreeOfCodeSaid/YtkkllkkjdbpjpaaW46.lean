/- Walks of functions of the given program: each returns what its Lean function says and leaves the memory that was there as it was. Conditions: those of each theorem. -/
import Derived.Test.YtkkllkkjdbpjpaaSm
import Derived.Test.YtkkllkkjdbpjpaaProg
import Derived.Test.YtkkllkkjdbpjpaaPl
import Derived.Test.YtkkllkkjdbpjpaaPo
import Derived.Test.YtkkllkkjdbpjpaaPd
import Derived.Test.YtkkllkkjdbpjpaaPe
import Derived.Test.YtkkllkkjdbpjpaaPh
import Derived.Test.YtkkllkkjdbpjpaaPm
import Derived.Test.YtkkllkkjdbpjpaaPc
import Derived.Test.YtkkllkkjdbpjpaaPs
import Derived.Test.YtkkllkkjdbpjpaaPt
import Derived.Test.YtkkllkkjdbpjpaaPu
import Derived.Test.YtkkllkkjdbpjpaaPv
import Derived.Test.YtkkllkkjdbpjpaaPw
import Derived.Test.YtkkllkkjdbpjpaaPx
import Derived.Test.YtkkllkkjdbpjpaaPy
import Derived.Test.YtkkllkkjdbpjpaaPz
import Derived.Test.YtkkllkkjdbpjpaaPr
import Derived.Test.YtkkllkkjdbpjpaaPa
import Derived.Test.YtkkllkkjdbpjpaaPn
import Derived.Test.YtkkllkkjdbpjpaaPj
import Derived.Test.YtkkllkkjdbpjpaaPq
import Derived.Test.YtkkllkkjdbpjpaaSp
import Derived.Test.YtkkllkkjdbpjpaaPp
import Derived.Test.YtkkllkkjdbpjpaaSs
import Derived.Test.YtkkllkkjdbpjpaaSr
import Derived.Test.YtkkllkkjdbpjpaaPb
import Derived.Test.YtkkllkkjdbpjpaaSe
import Derived.Test.YtkkllkkjdbpjpaaSf
import Derived.Test.YtkkllkkjdbpjpaaT
import Derived.Test.YtkkllkkjdbpjpaaW1
import Derived.Test.YtkkllkkjdbpjpaaW2
import Derived.Test.YtkkllkkjdbpjpaaW5
import Derived.Test.YtkkllkkjdbpjpaaW8
import Derived.Test.YtkkllkkjdbpjpaaW44
import Derived.KernelRfl
namespace Go.Proofs.Ytkkllkkjdbpjpaa.W46
open Go.Sx Go.RowKit Go.Proofs.Ytkkllkkjdbpjpaa.T Go.Proofs.Ytkkllkkjdbpjpaa.W1 Go.Proofs.Ytkkllkkjdbpjpaa.W2 Go.Proofs.Ytkkllkkjdbpjpaa.W5 Go.Proofs.Ytkkllkkjdbpjpaa.W8 Go.Proofs.Ytkkllkkjdbpjpaa.W44
open Go.Plain
set_option linter.unusedVariables false
set_option maxRecDepth 100000 in
theorem validCode_c (w : World) (A : Option Addr) (n : Nat) (c : Nat) (xs : List (Int)) (hA : At w A (cells fI xs)) (eA : xs.length = n) (lA : n ≤ c) (hs : xs.length ≤ 4000000) : Calls Try.prog 57 #[.slice A (n) (c)] w (Ret fun rv w' => rv = .bool (decide (TCP xs)) ∧ New w w' []) := by
  have oA := hA.atB
  subst eA
  refine fn_enter (args := [.slice A (xs.length) (c)]) Try.func57 rfl Try.ntmps57 rfl (SS.start w) ?_
  refine cw_seq ?_
  refine cw_region ?_
  refine wl_v (ov_assign rfl) rfl rfl rfl ?_
  refine wl_nil ?_
  refine ce_then ?_
  refine cw_seq ?_
  refine cw_seq ?_
  refine cw_region ?_
  refine wl_v (ov_assign rfl) rfl rfl rfl ?_
  refine wl_nil ?_
  refine ce_then ?_
  refine cw_block ?_
  refine cw_loop1 (fun (k : Nat) => [(0, .slice A (xs.length) (c)), (3, .int .i64 (((k : Nat) : Int)))]) (fun (k : Nat) => []) (fun (k : Nat) => k ≤ xs.length ∧ ∀ x ∈ xs.take k, 0 ≤ x ∧ x ≤ (xs.length : Int) + 1) (fun (k : Nat) => xs.length - k) 0 ⟨by omega, fun x hx => (by cases hx)⟩ (.cons rfl (.cons (congrArg (fun z => some (Value.int .i64 z)) (show 0 = ((0 : Nat) : Int) by first | omega | rfl | (simp; done))) (.nil))) (.nil) ?_
  intro R0 k hk hR0
  obtain ⟨hk1, hk2⟩ := hk
  refine cw_seq ?_
  refine cw_seq ?_
  refine cw_region ?_
  refine wl_v (ov_move rfl) rfl rfl rfl ?_
  refine wl_v (ov_move rfl) rfl rfl rfl ?_
  refine wl_v (ov_len (sliceI_spec sI38) rfl) rfl rfl rfl ?_
  refine wl_if (ov_lss rfl rfl) rfl rfl rfl (fun c7 => ?_) (fun c7 => ?_)
  ·
    refine wl_nil ?_
    refine ce_then ?_
    refine cw_true rfl ?_
    refine cw_skip ?_
    refine ce_then ?_
    refine cw_seq ?_
    refine cw_block ?_
    refine cw_seq ?_
    refine cw_region ?_
    refine wl_v (ov_move rfl) rfl rfl rfl ?_
    refine wl_v (ov_move rfl) rfl rfl rfl ?_
    refine wl_v (ov_index (k := k) (c := c) sI38 tI3 rfl rfl (some_holds (q := k * 1) (holds_old oA) (by rw [cells_length fI_len]; have hlt : k < xs.length := (by first | omega | (simp; omega)); omega)) (show k < xs.length from (by first | omega | (simp; omega)))) rfl rfl rfl ?_
    refine wl_v (ov_load tI3 (holds_old oA) rfl (get_fI (show k < xs.length from (by first | omega | (simp; omega))))) rfl rfl rfl ?_
    refine wl_v (ov_move rfl) rfl rfl rfl ?_
    refine wl_v (ov_len (sliceI_spec sI38) rfl) rfl rfl rfl ?_
    refine wl_v (ov_add (r := ((xs.length + 1 : Nat) : Int)) rfl rfl rfl (by omega)) rfl rfl rfl ?_
    refine wl_r (or_call (fv := []) (vs := [.int .i64 ((xs.getD k 0)), .int .i64 (0), .int .i64 (((xs.length + 1 : Nat) : Int))]) (cs := []) en82 rfl rfl (call_v (fun w hw => inRange_c w (xs.getD k 0) 0 ((xs.length + 1 : Nat) : Int) ))) rfl rfl (kt_if rfl (fun c17 => ?_) (fun c17 => ?_))
    ·
      refine wl_v (ov_not rfl) rfl rfl rfl ?_
      refine wl_nil ?_
      refine ce_then ?_
      refine cw_false rfl ?_
      refine cw_skip ?_
      refine ce_block ?_
      refine ce_then ?_
      refine cw_region ?_
      refine wl_v (ov_move rfl) rfl rfl rfl ?_
      refine wl_v (ov_add (r := ((k + 1 : Nat) : Int)) rfl rfl rfl (by omega)) rfl rfl rfl ?_
      refine wl_v (ov_assign rfl) rfl rfl rfl ?_
      refine wl_nil ?_
      exact fun ac_ w_ hs_ => hR0 (k + 1) ⟨by omega, all_take_step (p := fun x => 0 ≤ x ∧ x ≤ (xs.length : Int) + 1) 0 (by omega) hk2 (by omega)⟩ (by omega) ac_ w_ (hs_.weaken (.cons rfl (.cons rfl (.nil))) (.nil))
    ·
      refine wl_v (ov_not rfl) rfl rfl rfl ?_
      refine wl_nil ?_
      refine ce_then ?_
      refine cw_true rfl ?_
      refine cw_seq ?_
      refine cw_region ?_
      refine wl_v (ov_assign rfl) rfl rfl rfl ?_
      refine wl_nil ?_
      refine ce_then ?_
      refine cw_ret ?_
      refine ce_block_ret ?_
      refine ce_then_ret ?_
      refine ce_then_ret ?_
      refine ce_block_ret ?_
      refine ce_then_ret ?_
      refine ce_results (v := .bool false) (res1 rfl (rv_t rfl)) (fun w' hw => ?_)
      exact ⟨(bf (fun h => c17 (by have := h.1 _ (getD_mem (xs := xs) (k := k) 0 (by omega)); omega))), (Keep.nil.ss hw).to_new⟩
  ·
    refine wl_nil ?_
    refine ce_then ?_
    refine cw_false rfl ?_
    refine cw_exit ?_
    refine ce_then_exit ?_
    refine ce_then_exit ?_
    refine ce_hit ?_
    refine ce_then ?_
    refine cw_seq ?_
    refine cw_region ?_
    refine wl_v (ov_move rfl) rfl rfl rfl ?_
    refine wl_v (ov_len (sliceI_spec sI38) rfl) rfl rfl rfl ?_
    refine wl_v (ov_add (r := ((xs.length + 2 : Nat) : Int)) rfl rfl rfl (by omega)) rfl rfl rfl ?_
    refine wl_if (ov_leq rfl rfl) rfl rfl rfl (fun c22 => ?_) (fun c22 => ?_)
    ·
      refine wl_v (ov_assign rfl) rfl rfl rfl ?_
      refine wl_nil ?_
      refine ce_then ?_
      refine cw_ret ?_
      refine ce_results (v := .bool true) (res1 rfl (rv_t rfl)) (fun w' hw => ?_)
      exact ⟨(bt ⟨fun x hx => hk2 x (by rwa [List.take_of_length_le (by omega)]), by omega⟩), (Keep.nil.ss hw).to_new⟩
    ·
      refine wl_v (ov_assign rfl) rfl rfl rfl ?_
      refine wl_nil ?_
      refine ce_then ?_
      refine cw_ret ?_
      refine ce_results (v := .bool false) (res1 rfl (rv_t rfl)) (fun w' hw => ?_)
      exact ⟨(bf (fun h => c22 (by have := h.2; omega))), (Keep.nil.ss hw).to_new⟩
set_option maxRecDepth 100000 in
theorem toc1_c (w : World) (m : Int) (g1 : Nat) (k : Int) (hg1 : At w (some ⟨g1, 0, none⟩) [.int .i64 (k)]) : Calls Try.prog 61 #[.int .i64 (m), elp (some ⟨g1, 0, none⟩) (0)] w (Ret fun rv w' => rv = .bool (decide (m = k)) ∧ New w w' []) := by
  have og1 := hg1.atB
  refine fn_enter (args := [.int .i64 (m), elp (some ⟨g1, 0, none⟩) (0)]) Try.func61 rfl Try.ntmps61 rfl (SS.start w) ?_
  refine cw_seq ?_
  refine cw_region ?_
  refine wl_v (ov_assign rfl) rfl rfl rfl ?_
  refine wl_nil ?_
  refine ce_then ?_
  refine cw_seq ?_
  refine cw_region ?_
  refine wl_v (ov_move rfl) rfl rfl rfl ?_
  refine wl_v (ov_load tI3 (holds_old og1) rfl rfl) rfl rfl rfl ?_
  refine wl_if (ov_eql rfl rfl) rfl rfl rfl (fun c6 => ?_) (fun c6 => ?_)
  ·
    refine wl_v (ov_assign rfl) rfl rfl rfl ?_
    refine wl_nil ?_
    refine ce_then ?_
    refine cw_ret ?_
    refine ce_results (v := .bool true) (res1 rfl (rv_t rfl)) (fun w' hw => ?_)
    exact ⟨(by simp [c6]), (Keep.nil.ss hw).to_new⟩
  ·
    refine wl_v (ov_assign rfl) rfl rfl rfl ?_
    refine wl_nil ?_
    refine ce_then ?_
    refine cw_ret ?_
    refine ce_results (v := .bool false) (res1 rfl (rv_t rfl)) (fun w' hw => ?_)
    exact ⟨(by simp [c6]), (Keep.nil.ss hw).to_new⟩
set_option maxRecDepth 100000 in
theorem codeTreeS_c (w : World) (A : Option Addr) (n : Nat) (c : Nat) (xs : List (Int)) (hA : At w A (cells fI xs)) (eA : xs.length = n) (lA : n ≤ c) (hc : CodeP (xs.length + 2) xs) (hl : xs.length ≤ 5) : Calls Try.prog 58 #[.slice A (n) (c)] w (Ret fun rv w' => ∃ A2 c2, ((treeT (xs.length + 2) xs).length ≤ c2) ∧ rv = .agg #[.int .i64 (((xs.length + 2 : Nat) : Int)), .slice A2 ((treeT (xs.length + 2) xs).length) (c2)] ∧ New w w' [row 65 2 A2 ((treeT (xs.length + 2) xs).length) (c2) (cells fE (treeT (xs.length + 2) xs))]) := by
  have oA := hA.atB
  subst eA
  refine fn_enter (args := [.slice A (xs.length) (c)]) Try.func58 rfl Try.ntmps58 rfl (SS.start w) ?_
  refine cw_seq ?_
  refine cw_region ?_
  refine wl_r (or_alloc tI25 rfl) rfl rfl (kt1 rfl (fun g2 => ?_))
  refine wl_nil ?_
  refine ce_then ?_
  refine cw_seq ?_
  refine cw_region ?_
  refine wl_v (ov_move rfl) rfl rfl rfl ?_
  refine wl_v (ov_len (sliceI_spec sI38) rfl) rfl rfl rfl ?_
  refine wl_v (ov_add (r := ((xs.length + 2 : Nat) : Int)) rfl rfl rfl (by omega)) rfl rfl rfl ?_
  refine wl_v (ov_assign rfl) rfl rfl rfl ?_
  refine wl_nil ?_
  refine ce_then ?_
  refine cw_seq ?_
  refine cw_region ?_
  refine wl_v (ov_move rfl) rfl rfl rfl ?_
  refine wl_r (or_buildSlice (e := 65) (size := 2) (is := []) (vs := []) (cs := cells fE ([])) rfl rfl rfl (by decide) (fun _ => by kernel_rfl)) rfl rfl (kt1 rfl (fun g16 => ?_))
  refine wl_v (ov_build (is := [0, 1]) (vs := [.int .i64 (((xs.length + 2 : Nat) : Int)), .slice (some ⟨g16, 0, none⟩) (0) (0)]) (v := .agg #[.int .i64 (((xs.length + 2 : Nat) : Int)), .slice (some ⟨g16, 0, none⟩) (0) (0)]) rfl rfl (fun _ => by kernel_rfl)) rfl rfl rfl ?_
  refine wl_r (or_alloc tI25 rfl) rfl rfl (kt1 rfl (fun g4 => ?_))
  refine wl_r0 (or_store_blk (vs := [.int .i64 (((xs.length + 2 : Nat) : Int)), .slice (some ⟨g16, 0, none⟩) (0) (0)]) (cs' := [.int .i64 (((xs.length + 2 : Nat) : Int)), .slice (some ⟨g16, 0, none⟩) (0) (0)]) (.head) tI25 rfl rfl rfl rfl (Nat.le_of_ble_eq_true rfl) rfl) rfl rfl (kn0 ?_)
  refine wl_nil ?_
  refine ce_then ?_
  refine cw_seq ?_
  refine cw_region ?_
  refine wl_v (ov_move rfl) rfl rfl rfl ?_
  refine wl_r (or_makeSlice (m := xs.length + 2) sI38 tI3 rfl rfl (made_fI _) (by omega) (show xs.length + 2 ≤ maxLen by simp only [maxLen]; omega)) rfl rfl (kt1 rfl (fun g19 => ?_))
  refine wl_v (ov_assign rfl) rfl rfl rfl ?_
  refine wl_nil ?_
  refine ce_then ?_
  refine cw_seq ?_
  refine cw_seq ?_
  refine cw_region ?_
  refine wl_v (ov_assign rfl) rfl rfl rfl ?_
  refine wl_nil ?_
  refine ce_then ?_
  refine cw_block ?_
  refine cw_loop1 (fun (k : Nat) => [(0, .slice A (xs.length) (c)), (2, elp (some ⟨g2, 0, none⟩) (0)), (3, .int .i64 (((xs.length + 2 : Nat) : Int))), (4, elp (some ⟨g4, 0, none⟩) (0)), (5, .slice (some ⟨g19, 0, none⟩) (xs.length + 2) (xs.length + 2)), (6, .int .i64 (((k : Nat) : Int)))]) (fun (k : Nat) => [row 3 1 (some ⟨g19, 0, none⟩) (xs.length + 2) (xs.length + 2) (cells fI (tallyR (xs.length + 2) (xs.take k))), blk g4 [.int .i64 (((xs.length + 2 : Nat) : Int)), .slice (some ⟨g16, 0, none⟩) (0) (0)] 25, row 65 2 (some ⟨g16, 0, none⟩) (0) (0) (cells fE ([])), blk g2 [.int .i64 (0), .slice none (0) (0)] 25]) (fun (k : Nat) => k ≤ xs.length) (fun (k : Nat) => xs.length - k) 0 (by omega) (.cons rfl (.cons rfl (.cons rfl (.cons rfl (.cons rfl (.cons (congrArg (fun z => some (Value.int .i64 z)) (show 0 = ((0 : Nat) : Int) by first | omega | rfl | (simp; done))) (.nil))))))) (.consE (show row 3 1 (some ⟨g19, 0, none⟩) (xs.length + 2) (xs.length + 2) (cells fI (List.replicate (xs.length + 2) 0)) = row 3 1 (some ⟨g19, 0, none⟩) (xs.length + 2) (xs.length + 2) (cells fI (tallyR (xs.length + 2) (xs.take 0))) by rw [List.take_zero, tallyR_nil]) (.head) (.cons (.head) (.cons (.head) (.cons (.head) (.nil))))) ?_
  intro R0 k hk hR0
  have htl := tallyR_length (xs.length + 2) (xs.take k)
  have htk : (xs.take k).length ≤ 5 := by rw [List.length_take]; omega
  refine cw_seq ?_
  refine cw_seq ?_
  refine cw_region ?_
  refine wl_v (ov_move rfl) rfl rfl rfl ?_
  refine wl_v (ov_move rfl) rfl rfl rfl ?_
  refine wl_v (ov_len (sliceI_spec sI38) rfl) rfl rfl rfl ?_
  refine wl_if (ov_lss rfl rfl) rfl rfl rfl (fun c23 => ?_) (fun c23 => ?_)
  ·
    have hck := hc.2 _ (getD_mem (xs := xs) (k := k) 0 (by omega))
    have hb1 := tallyR_bd (xs.length + 2) (xs.take k) (xs.getD k 0).toNat
    refine wl_nil ?_
    refine ce_then ?_
    refine cw_true rfl ?_
    refine cw_skip ?_
    refine ce_then ?_
    refine cw_seq ?_
    refine cw_block ?_
    refine cw_draw mixO [14] (.cons (.head) (.cons (.head) (.cons (.head) (.cons (.head) (.nil))))) rfl ?_
    refine wg_takep (i := 0) rfl (ov_move rfl) rfl rfl rfl (by kernel_rfl) (by kernel_rfl) (by kernel_rfl) rfl ?_
    refine wg_takep (i := 1) rfl (ov_move rfl) rfl rfl rfl (by kernel_rfl) (by kernel_rfl) (by kernel_rfl) rfl ?_
    refine wg_takep (i := 2) rfl (ov_move rfl) rfl rfl rfl (by kernel_rfl) (by kernel_rfl) (by kernel_rfl) rfl ?_
    refine wg_take (i := 3) rfl (ov_index (k := k) (c := c) sI38 tI3 rfl rfl (some_holds (q := k * 1) (holds_old oA) (by rw [cells_length fI_len]; have hlt : k < xs.length := (by omega); omega)) (show k < xs.length from (by omega))) rfl rfl rfl (by kernel_rfl) (by kernel_rfl) (by kernel_rfl) (by kernel_rfl) ?_
    refine wg_take (i := 4) rfl (ov_load tI3 (holds_old oA) rfl (get_fI (show k < xs.length from (by omega)))) rfl rfl rfl (by kernel_rfl) (by kernel_rfl) (by kernel_rfl) (by kernel_rfl) ?_
    refine wg_takep (i := 5) rfl (ov_move rfl) rfl rfl rfl (by kernel_rfl) (by kernel_rfl) (by kernel_rfl) rfl ?_
    refine wg_takep (i := 6) rfl (ov_move rfl) rfl rfl rfl (by kernel_rfl) (by kernel_rfl) (by kernel_rfl) rfl ?_
    refine wg_takep (i := 7) rfl (ov_move rfl) rfl rfl rfl (by kernel_rfl) (by kernel_rfl) (by kernel_rfl) rfl ?_
    refine wg_take (i := 8) rfl (ov_index (k := k) (c := c) sI38 tI3 rfl rfl (some_holds (q := k * 1) (holds_old oA) (by rw [cells_length fI_len]; have hlt : k < xs.length := (by omega); omega)) (show k < xs.length from (by omega))) rfl rfl rfl (by kernel_rfl) (by kernel_rfl) (by kernel_rfl) (by kernel_rfl) ?_
    refine wg_take (i := 9) rfl (ov_load tI3 (holds_old oA) rfl (get_fI (show k < xs.length from (by omega)))) rfl rfl rfl (by kernel_rfl) (by kernel_rfl) (by kernel_rfl) (by kernel_rfl) ?_
    refine wg_take (i := 10) rfl (ov_indexg sI38 tI3 rfl rfl (some_holds (q := ((xs.getD k 0).toNat) * 1) (holds_row (List.Mem.head _)) (by rw [cells_length fI_len]; have hlt : (xs.getD k 0).toNat < (tallyR (xs.length + 2) (xs.take k)).length := (by omega); omega)) (by omega) (show (xs.getD k 0).toNat < xs.length + 2 from (by omega))) rfl rfl rfl (by kernel_rfl) (by kernel_rfl) (by kernel_rfl) (by kernel_rfl) ?_
    refine wg_take (i := 11) rfl (ov_load tI3 (holds_row (List.Mem.head _)) rfl (get_fI (show (xs.getD k 0).toNat < (tallyR (xs.length + 2) (xs.take k)).length from (by omega)))) rfl rfl rfl (by kernel_rfl) (by kernel_rfl) (by kernel_rfl) (by kernel_rfl) ?_
    refine wg_takep (i := 12) rfl (ov_add (r := ((tallyR (xs.length + 2) (xs.take k)).getD ((xs.getD k 0).toNat) 0) + 1) rfl rfl rfl (by omega)) rfl rfl rfl (by kernel_rfl) (by kernel_rfl) (by kernel_rfl) rfl ?_
    refine wg_take (i := 13) rfl (ov_indexg sI38 tI3 rfl rfl (some_holds (q := ((xs.getD k 0).toNat) * 1) (holds_row (List.Mem.head _)) (by rw [cells_length fI_len]; have hlt : (xs.getD k 0).toNat < (tallyR (xs.length + 2) (xs.take k)).length := (by omega); omega)) (by omega) (show (xs.getD k 0).toNat < xs.length + 2 from (by omega))) rfl rfl rfl (by kernel_rfl) (by kernel_rfl) (by kernel_rfl) (by kernel_rfl) ?_
    refine wg_one (i := 14) (by kernel_rfl) ?_
    refine go_late0 rfl rfl rfl rfl (or_store_row (vs := [.int .i64 (((tallyR (xs.length + 2) (xs.take k)).getD ((xs.getD k 0).toNat) 0) + 1)]) (cs' := cells fI ((tallyR (xs.length + 2) (xs.take k)).set ((xs.getD k 0).toNat) (((tallyR (xs.length + 2) (xs.take k)).getD ((xs.getD k 0).toNat) 0) + 1))) (.head) tI3 rfl rfl rfl rfl (by rw [cells_length fI_len]; have hlt := (show (xs.getD k 0).toNat < (tallyR (xs.length + 2) (xs.take k)).length from (by omega)); simp only [List.length_cons, List.length_nil]; omega) (by simp) (cells_splice fI_len (show (xs.getD k 0).toNat < (tallyR (xs.length + 2) (xs.take k)).length from (by omega)) (((tallyR (xs.length + 2) (xs.take k)).getD ((xs.getD k 0).toNat) 0) + 1))) (kn0 ?_)
    refine wa_done (by kernel_rfl) ?_
    refine ce_block ?_
    refine ce_then ?_
    refine cw_region ?_
    refine wl_v (ov_move rfl) rfl rfl rfl ?_
    refine wl_v (ov_add (r := ((k + 1 : Nat) : Int)) rfl rfl rfl (by omega)) rfl rfl rfl ?_
    refine wl_v (ov_assign rfl) rfl rfl rfl ?_
    refine wl_nil ?_
    exact fun ac_ w_ hs_ => hR0 (k + 1) (by omega) (by omega) ac_ w_ (hs_.weaken (.cons rfl (.cons rfl (.cons rfl (.cons rfl (.cons rfl (.cons rfl (.nil))))))) (.consE (show row 3 1 (some ⟨g19, 0, none⟩) (xs.length + 2) (xs.length + 2) (cells fI ((tallyR (xs.length + 2) (xs.take k)).set ((xs.getD k 0).toNat) (((tallyR (xs.length + 2) (xs.take k)).getD ((xs.getD k 0).toNat) 0) + 1))) = row 3 1 (some ⟨g19, 0, none⟩) (xs.length + 2) (xs.length + 2) (cells fI (tallyR (xs.length + 2) (xs.take (k + 1)))) by rw [← tally_up (by omega) hck]) (.head) (.cons (.head) (.cons (.head) (.cons (.head) (.nil))))))
  ·
    refine wl_nil ?_
    refine ce_then ?_
    refine cw_false rfl ?_
    refine cw_exit ?_
    refine ce_then_exit ?_
    refine ce_then_exit ?_
    refine ce_hit ?_
    refine ce_then ?_
    refine cw_seq ?_
    refine cw_region ?_
    refine wl_r (or_buildSlice (e := 3) (size := 1) (is := []) (vs := []) (cs := cells fI ([])) rfl rfl rfl (by decide) (fun _ => by kernel_rfl)) rfl rfl (kt1 rfl (fun g40 => ?_))
    refine wl_v (ov_assign rfl) rfl rfl rfl ?_
    refine wl_nil ?_
    refine ce_then ?_
    refine cw_seq ?_
    refine cw_seq ?_
    refine cw_region ?_
    refine wl_v (ov_assign rfl) rfl rfl rfl ?_
    refine wl_nil ?_
    refine ce_then ?_
    refine cw_block ?_
    refine cw_loop5 (fun (k : Nat) (A7 : Option Addr) (c7 : Nat) (A4 : Option Addr) (c4 : Nat) => [(0, .slice A (xs.length) (c)), (2, elp (some ⟨g2, 0, none⟩) (0)), (3, .int .i64 (((xs.length + 2 : Nat) : Int))), (4, elp (some ⟨g4, 0, none⟩) (0)), (5, .slice (some ⟨g19, 0, none⟩) (xs.length + 2) (xs.length + 2)), (7, .slice A7 (k) (c7)), (8, .int .i64 (((k : Nat) : Int)))]) (fun (k : Nat) (A7 : Option Addr) (c7 : Nat) (A4 : Option Addr) (c4 : Nat) => [row 3 1 A7 (k) (c7) (cells fI (goneTo (xs.length + 2) xs k)), row 3 1 (some ⟨g19, 0, none⟩) (xs.length + 2) (xs.length + 2) (cells fI (tallyR (xs.length + 2) (xs.drop k))), blk g4 [.int .i64 (((xs.length + 2 : Nat) : Int)), .slice A4 ((srtE (edgTo (xs.length + 2) xs k)).length) (c4)] 25, row 65 2 A4 ((srtE (edgTo (xs.length + 2) xs k)).length) (c4) (cells fE (srtE (edgTo (xs.length + 2) xs k))), blk g2 [.int .i64 (0), .slice none (0) (0)] 25]) (fun (k : Nat) (A7 : Option Addr) (c7 : Nat) (A4 : Option Addr) (c4 : Nat) => k ≤ xs.length ∧ k ≤ c7 ∧ (srtE (edgTo (xs.length + 2) xs k)).length ≤ c4) (fun (k : Nat) (A7 : Option Addr) (c7 : Nat) (A4 : Option Addr) (c4 : Nat) => xs.length - k) 0 (some ⟨g40, 0, none⟩) 0 (some ⟨g16, 0, none⟩) 0 ⟨by omega, Nat.le_refl _, Nat.le_refl _⟩ (.cons rfl (.cons rfl (.cons rfl (.cons rfl (.cons rfl (.cons rfl (.cons (congrArg (fun z => some (Value.int .i64 z)) (show 0 = ((0 : Nat) : Int) by first | omega | rfl | (simp; done))) (.nil)))))))) (.consE (show row 3 1 (some ⟨g40, 0, none⟩) (0) (0) (cells fI ([])) = row 3 1 (some ⟨g40, 0, none⟩) (0) (0) (cells fI (goneTo (xs.length + 2) xs 0)) by rfl) (.head) (.consE (show row 3 1 (some ⟨g19, 0, none⟩) (xs.length + 2) (xs.length + 2) (cells fI (tallyR (xs.length + 2) (xs.take k))) = row 3 1 (some ⟨g19, 0, none⟩) (xs.length + 2) (xs.length + 2) (cells fI (tallyR (xs.length + 2) (xs.drop 0))) by rw [List.take_of_length_le (by omega), List.drop_zero]) (.head) (.consE (show blk g4 [.int .i64 (((xs.length + 2 : Nat) : Int)), .slice (some ⟨g16, 0, none⟩) (0) (0)] 25 = blk g4 [.int .i64 (((xs.length + 2 : Nat) : Int)), .slice (some ⟨g16, 0, none⟩) ((srtE (edgTo (xs.length + 2) xs 0)).length) (0)] 25 by rfl) (.head) (.consE (show row 65 2 (some ⟨g16, 0, none⟩) (0) (0) (cells fE ([])) = row 65 2 (some ⟨g16, 0, none⟩) ((srtE (edgTo (xs.length + 2) xs 0)).length) (0) (cells fE (srtE (edgTo (xs.length + 2) xs 0))) by rfl) (.head) (.cons (.head) (.nil)))))) ?_
    intro R1 k A7 c7 A4 c4 hk1 hR1
    obtain ⟨hq1, hq2, hq3⟩ := hk1
    have hgl := goneTo_length (xs.length + 2) xs k
    have htl := tallyR_length (xs.length + 2) (xs.drop k)
    have hel : (srtE (edgTo (xs.length + 2) xs k)).length = k := by rw [srtE_length, edgTo_length]
    have hdl : (xs.drop k).length ≤ 5 := by rw [List.length_drop]; omega
    refine cw_seq ?_
    refine cw_seq ?_
    refine cw_region ?_
    refine wl_v (ov_move rfl) rfl rfl rfl ?_
    refine wl_v (ov_move rfl) rfl rfl rfl ?_
    refine wl_v (ov_len (sliceI_spec sI38) rfl) rfl rfl rfl ?_
    refine wl_if (ov_lss rfl rfl) rfl rfl rfl (fun c44 => ?_) (fun c44 => ?_)
    ·
      obtain ⟨lf, hle, hll, hlf⟩ := leafNat hc (k := k) (by omega)
      have hck := hc.2 _ (getD_mem (xs := xs) (k := k) 0 (by omega))
      have hb1 := tallyR_bd (xs.length + 2) (xs.drop k) (xs.getD k 0).toNat
      refine wl_nil ?_
      refine ce_then ?_
      refine cw_true rfl ?_
      refine cw_skip ?_
      refine ce_then ?_
      refine cw_seq ?_
      refine cw_block ?_
      refine cw_seq ?_
      refine cw_region ?_
      refine wl_v (ov_assign rfl) rfl rfl rfl ?_
      refine wl_nil ?_
      refine ce_then ?_
      refine cw_seq ?_
      refine cw_block ?_
      refine cw_loop1 (fun (v : Nat) => [(0, .slice A (xs.length) (c)), (2, elp (some ⟨g2, 0, none⟩) (0)), (3, .int .i64 (((xs.length + 2 : Nat) : Int))), (4, elp (some ⟨g4, 0, none⟩) (0)), (5, .slice (some ⟨g19, 0, none⟩) (xs.length + 2) (xs.length + 2)), (7, .slice A7 (k) (c7)), (8, .int .i64 (((k : Nat) : Int))), (9, .int .i64 (((v : Nat) : Int)))]) (fun (v : Nat) => [row 3 1 A7 (k) (c7) (cells fI (goneTo (xs.length + 2) xs k)), row 3 1 (some ⟨g19, 0, none⟩) (xs.length + 2) (xs.length + 2) (cells fI (tallyR (xs.length + 2) (xs.drop k))), blk g4 [.int .i64 (((xs.length + 2 : Nat) : Int)), .slice A4 ((srtE (edgTo (xs.length + 2) xs k)).length) (c4)] 25, row 65 2 A4 ((srtE (edgTo (xs.length + 2) xs k)).length) (c4) (cells fE (srtE (edgTo (xs.length + 2) xs k))), blk g2 [.int .i64 (0), .slice none (0) (0)] 25]) (fun (v : Nat) => v ≤ lf) (fun (v : Nat) => xs.length + 2 - v) 0 (by omega) (.cons rfl (.cons rfl (.cons rfl (.cons rfl (.cons rfl (.cons rfl (.cons rfl (.cons (congrArg (fun z => some (Value.int .i64 z)) (show 0 = ((0 : Nat) : Int) by first | omega | rfl | (simp; done))) (.nil))))))))) (.cons (.head) (.cons (.head) (.cons (.head) (.cons (.head) (.cons (.head) (.nil)))))) ?_
      intro R2 v hk2 hR2
      refine cw_seq ?_
      refine cw_seq ?_
      refine cw_region ?_
      refine wl_v (ov_move rfl) rfl rfl rfl ?_
      refine wl_v (ov_move rfl) rfl rfl rfl ?_
      refine wl_v (ov_index (k := v) (c := xs.length + 2) sI38 tI3 rfl rfl (some_holds (q := v * 1) (holds_row (List.Mem.tail _ (List.Mem.head _))) (by rw [cells_length fI_len]; have hlt : v < (tallyR (xs.length + 2) (xs.drop k)).length := (by omega); omega)) (show v < xs.length + 2 from (by omega))) rfl rfl rfl ?_
      refine wl_v (ov_load tI3 (holds_row (List.Mem.tail _ (List.Mem.head _))) rfl (get_fI (show v < (tallyR (xs.length + 2) (xs.drop k)).length from (by omega)))) rfl rfl rfl ?_
      refine wl_if (ov_gtr rfl rfl) rfl rfl rfl (fun c51 => ?_) (fun c51 => ?_)
      ·
        refine wl_v (ov_move rfl) rfl rfl rfl ?_
        refine wl_not rfl rfl rfl rfl rfl rfl ?_
        refine wl_not rfl rfl rfl rfl rfl rfl ?_
        refine wl_not rfl rfl rfl rfl rfl rfl ?_
        refine wl_v (ov_pick_t rfl rfl) rfl rfl rfl ?_
        refine wl_nil ?_
        refine ce_then ?_
        refine cw_true rfl ?_
        refine cw_skip ?_
        refine ce_then ?_
        refine cw_block ?_
        refine cw_region ?_
        refine wl_v (ov_move rfl) rfl rfl rfl ?_
        refine wl_v (ov_add (r := ((v + 1 : Nat) : Int)) rfl rfl rfl (by omega)) rfl rfl rfl ?_
        refine wl_v (ov_assign rfl) rfl rfl rfl ?_
        refine wl_nil ?_
        refine ce_block ?_
        exact fun ac_ w_ hs_ => hR2 (v + 1) (by have e := tallyR_get (n := (xs.length + 2)) (j := v) (by omega) (xs.drop k); have := hlf.ne_of_left (v := v) (by omega); omega) (by omega) ac_ w_ (hs_.weaken (.cons rfl (.cons rfl (.cons rfl (.cons rfl (.cons rfl (.cons rfl (.cons rfl (.cons rfl (.nil))))))))) (.cons (.head) (.cons (.head) (.cons (.head) (.cons (.head) (.cons (.head) (.nil)))))))
      ·
        refine wl_v (ov_move rfl) rfl rfl rfl ?_
        refine wl_go rfl rfl ?_
        refine wl_v (ov_move rfl) rfl rfl rfl ?_
        refine wl_go rfl rfl ?_
        refine wl_v (ov_move rfl) rfl rfl rfl ?_
        refine wl_go rfl rfl ?_
        refine wl_r (or_call (fv := []) (vs := [.slice A7 (k) (c7), .int .i64 (((v : Nat) : Int))]) (cs := []) en86 rfl rfl (call_v (fun w hw => hasInt_c w A7 k c7 (goneTo (xs.length + 2) xs k) ((v : Nat) : Int) ((holds_row (List.Mem.head _)) w hw) (goneTo_length _ _ _) hq2 (by omega)))) rfl rfl (kt_if rfl (fun c55 => ?_) (fun c55 => ?_))
        ·
          refine wl_v (ov_pick_f rfl rfl) rfl rfl rfl ?_
          refine wl_nil ?_
          refine ce_then ?_
          refine cw_true rfl ?_
          refine cw_skip ?_
          refine ce_then ?_
          refine cw_block ?_
          refine cw_region ?_
          refine wl_v (ov_move rfl) rfl rfl rfl ?_
          refine wl_v (ov_add (r := ((v + 1 : Nat) : Int)) rfl rfl rfl (by omega)) rfl rfl rfl ?_
          refine wl_v (ov_assign rfl) rfl rfl rfl ?_
          refine wl_nil ?_
          refine ce_block ?_
          exact fun ac_ w_ hs_ => hR2 (v + 1) (by have := hlf.ne_of_gone (v := v) c55; omega) (by omega) ac_ w_ (hs_.weaken (.cons rfl (.cons rfl (.cons rfl (.cons rfl (.cons rfl (.cons rfl (.cons rfl (.cons rfl (.nil))))))))) (.cons (.head) (.cons (.head) (.cons (.head) (.cons (.head) (.cons (.head) (.nil)))))))
        ·
          have e9 := tallyR_get (n := (xs.length + 2)) (j := v) (by omega) (xs.drop k)
          have hvl : v = lf := hlf.is (by omega) c55 (by omega)
          have hnx : srtE (edgTo (xs.length + 2) xs (k + 1)) = insE (srtE (edgTo (xs.length + 2) xs k)) (edg ((v : Nat) : Int) (xs.getD k 0)) := by rw [← srt_next hle, hvl]
          refine wl_v (ov_pick_f rfl rfl) rfl rfl rfl ?_
          refine wl_nil ?_
          refine ce_then ?_
          refine cw_false rfl ?_
          refine cw_exit ?_
          refine ce_then_exit ?_
          refine ce_then_exit ?_
          refine ce_hit ?_
          refine ce_then ?_
          refine cw_seq ?_
          refine cw_draw mixO [7] (.cons (.head) (.cons (.head) (.cons (.head) (.cons (.head) (.cons (.head) (.nil)))))) rfl ?_
          refine wg_take (i := 0) rfl (ov_loadAgg (vs := [.int .i64 (((xs.length + 2 : Nat) : Int)), .slice A4 ((srtE (edgTo (xs.length + 2) xs k)).length) (c4)]) tI25 (holds_blk (List.Mem.tail _ (List.Mem.tail _ (List.Mem.head _)))) rfl some_lit rfl rfl) rfl rfl rfl (by kernel_rfl) (by kernel_rfl) (by kernel_rfl) (by kernel_rfl) ?_
          refine wg_takep (i := 1) rfl (ov_move rfl) rfl rfl rfl (by kernel_rfl) (by kernel_rfl) (by kernel_rfl) rfl ?_
          refine wg_takep (i := 2) rfl (ov_move rfl) rfl rfl rfl (by kernel_rfl) (by kernel_rfl) (by kernel_rfl) rfl ?_
          refine wg_takep (i := 3) rfl (ov_move rfl) rfl rfl rfl (by kernel_rfl) (by kernel_rfl) (by kernel_rfl) rfl ?_
          refine wg_take (i := 4) rfl (ov_index (k := k) (c := c) sI38 tI3 rfl rfl (some_holds (q := k * 1) (holds_old oA) (by rw [cells_length fI_len]; have hlt : k < xs.length := (by omega); omega)) (show k < xs.length from (by omega))) rfl rfl rfl (by kernel_rfl) (by kernel_rfl) (by kernel_rfl) (by kernel_rfl) ?_
          refine wg_take (i := 5) rfl (ov_load tI3 (holds_old oA) rfl (get_fI (show k < xs.length from (by omega)))) rfl rfl rfl (by kernel_rfl) (by kernel_rfl) (by kernel_rfl) (by kernel_rfl) ?_
          refine wg_one (i := 6) (by kernel_rfl) ?_
          refine go_r rfl rfl rfl rfl (or_call (fv := []) (vs := [.agg #[.int .i64 (((xs.length + 2 : Nat) : Int)), .slice A4 ((srtE (edgTo (xs.length + 2) xs k)).length) (c4)], .int .i64 (((v : Nat) : Int)), .int .i64 ((xs.getD k 0))]) (cs := []) en94 rfl rfl (call_x2 (fun w hw => addEdgeX_c w ((xs.length + 2 : Nat) : Int) A4 ((srtE (edgTo (xs.length + 2) xs k)).length) c4 (srtE (edgTo (xs.length + 2) xs k)) ((v : Nat) : Int) (xs.getD k 0) ((holds_row (List.Mem.tail _ (List.Mem.tail _ (List.Mem.tail _ (List.Mem.head _))))) w hw) rfl hq3 (by omega)))) (kt2p rfl (fun A2_65 c2_65 h_65 => ?_))
          refine gk (.cons (.tail .head) (.cons (.tail .head) (.cons (.tail .head) (.cons (.tail .head) (.cons (.tail .head) (.nil)))))) ?_
          refine wg_one (i := 7) (by kernel_rfl) ?_
          refine go_late0 rfl rfl rfl rfl (or_store_blk (vs := [.int .i64 (((xs.length + 2 : Nat) : Int)), .slice A2_65 ((insE (srtE (edgTo (xs.length + 2) xs k)) (edg ((v : Nat) : Int) (xs.getD k 0))).length) (c2_65)]) (cs' := [.int .i64 (((xs.length + 2 : Nat) : Int)), .slice A2_65 ((insE (srtE (edgTo (xs.length + 2) xs k)) (edg ((v : Nat) : Int) (xs.getD k 0))).length) (c2_65)]) (.tail (.tail (.tail .head))) tI25 rfl rfl rfl rfl (Nat.le_of_ble_eq_true rfl) rfl) (kn0 ?_)
          refine wa_done (by kernel_rfl) ?_
          refine ce_then ?_
          refine cw_seq ?_
          refine cw_region ?_
          refine wl_v (ov_move rfl) rfl rfl rfl ?_
          refine wl_v (ov_move rfl) rfl rfl rfl ?_
          refine wl_r (or_buildSlice (e := 3) (size := 1) (is := [0]) (vs := [.int .i64 (((v : Nat) : Int))]) (cs := cells fI ([((v : Nat) : Int)])) rfl rfl rfl (by decide) (fun _ => by kernel_rfl)) rfl rfl (kt1 rfl (fun g68 => ?_))
          refine wl_r (or_append (c2 := 1) sI38 tI3 rfl (by decide) rfl rfl (.tail (.tail (.tail .head))) (holds_row (List.Mem.head _)) (by rw [cells_length fI_len]; try simp) (one_cells fI_one _) cells_append (by omega) (by omega)) rfl rfl (kt2p rfl (fun A69 c69 h69 => ?_))
          refine wl_v (ov_assign rfl) rfl rfl rfl ?_
          refine wl_nil ?_
          refine ce_then ?_
          refine cw_draw mixO [14] (.cons (.head) (.cons (.head) (.cons (.head) (.cons (.head) (.cons (.head) (.cons (.head) (.cons (.head) (.nil)))))))) rfl ?_
          refine wg_takep (i := 0) rfl (ov_move rfl) rfl rfl rfl (by kernel_rfl) (by kernel_rfl) (by kernel_rfl) rfl ?_
          refine wg_takep (i := 1) rfl (ov_move rfl) rfl rfl rfl (by kernel_rfl) (by kernel_rfl) (by kernel_rfl) rfl ?_
          refine wg_takep (i := 2) rfl (ov_move rfl) rfl rfl rfl (by kernel_rfl) (by kernel_rfl) (by kernel_rfl) rfl ?_
          refine wg_take (i := 3) rfl (ov_index (k := k) (c := c) sI38 tI3 rfl rfl (some_holds (q := k * 1) (holds_old oA) (by rw [cells_length fI_len]; have hlt : k < xs.length := (by omega); omega)) (show k < xs.length from (by omega))) rfl rfl rfl (by kernel_rfl) (by kernel_rfl) (by kernel_rfl) (by kernel_rfl) ?_
          refine wg_take (i := 4) rfl (ov_load tI3 (holds_old oA) rfl (get_fI (show k < xs.length from (by omega)))) rfl rfl rfl (by kernel_rfl) (by kernel_rfl) (by kernel_rfl) (by kernel_rfl) ?_
          refine wg_takep (i := 5) rfl (ov_move rfl) rfl rfl rfl (by kernel_rfl) (by kernel_rfl) (by kernel_rfl) rfl ?_
          refine wg_takep (i := 6) rfl (ov_move rfl) rfl rfl rfl (by kernel_rfl) (by kernel_rfl) (by kernel_rfl) rfl ?_
          refine wg_takep (i := 7) rfl (ov_move rfl) rfl rfl rfl (by kernel_rfl) (by kernel_rfl) (by kernel_rfl) rfl ?_
          refine wg_take (i := 8) rfl (ov_index (k := k) (c := c) sI38 tI3 rfl rfl (some_holds (q := k * 1) (holds_old oA) (by rw [cells_length fI_len]; have hlt : k < xs.length := (by omega); omega)) (show k < xs.length from (by omega))) rfl rfl rfl (by kernel_rfl) (by kernel_rfl) (by kernel_rfl) (by kernel_rfl) ?_
          refine wg_take (i := 9) rfl (ov_load tI3 (holds_old oA) rfl (get_fI (show k < xs.length from (by omega)))) rfl rfl rfl (by kernel_rfl) (by kernel_rfl) (by kernel_rfl) (by kernel_rfl) ?_
          refine wg_take (i := 10) rfl (ov_indexg sI38 tI3 rfl rfl (some_holds (q := ((xs.getD k 0).toNat) * 1) (holds_row (List.Mem.tail _ (List.Mem.tail _ (List.Mem.tail _ (List.Mem.tail _ (List.Mem.head _)))))) (by rw [cells_length fI_len]; have hlt : (xs.getD k 0).toNat < (tallyR (xs.length + 2) (xs.drop k)).length := (by omega); omega)) (by omega) (show (xs.getD k 0).toNat < xs.length + 2 from (by omega))) rfl rfl rfl (by kernel_rfl) (by kernel_rfl) (by kernel_rfl) (by kernel_rfl) ?_
          refine wg_take (i := 11) rfl (ov_load tI3 (holds_row (List.Mem.tail _ (List.Mem.tail _ (List.Mem.tail _ (List.Mem.tail _ (List.Mem.head _)))))) rfl (get_fI (show (xs.getD k 0).toNat < (tallyR (xs.length + 2) (xs.drop k)).length from (by omega)))) rfl rfl rfl (by kernel_rfl) (by kernel_rfl) (by kernel_rfl) (by kernel_rfl) ?_
          refine wg_takep (i := 12) rfl (ov_sub (r := ((tallyR (xs.length + 2) (xs.drop k)).getD ((xs.getD k 0).toNat) 0) - 1) rfl rfl rfl (by omega)) rfl rfl rfl (by kernel_rfl) (by kernel_rfl) (by kernel_rfl) rfl ?_
          refine wg_take (i := 13) rfl (ov_indexg sI38 tI3 rfl rfl (some_holds (q := ((xs.getD k 0).toNat) * 1) (holds_row (List.Mem.tail _ (List.Mem.tail _ (List.Mem.tail _ (List.Mem.tail _ (List.Mem.head _)))))) (by rw [cells_length fI_len]; have hlt : (xs.getD k 0).toNat < (tallyR (xs.length + 2) (xs.drop k)).length := (by omega); omega)) (by omega) (show (xs.getD k 0).toNat < xs.length + 2 from (by omega))) rfl rfl rfl (by kernel_rfl) (by kernel_rfl) (by kernel_rfl) (by kernel_rfl) ?_
          refine wg_one (i := 14) (by kernel_rfl) ?_
          refine go_late0 rfl rfl rfl rfl (or_store_row (vs := [.int .i64 (((tallyR (xs.length + 2) (xs.drop k)).getD ((xs.getD k 0).toNat) 0) - 1)]) (cs' := cells fI ((tallyR (xs.length + 2) (xs.drop k)).set ((xs.getD k 0).toNat) (((tallyR (xs.length + 2) (xs.drop k)).getD ((xs.getD k 0).toNat) 0) - 1))) (.tail (.tail (.tail (.tail .head)))) tI3 rfl rfl rfl rfl (by rw [cells_length fI_len]; have hlt := (show (xs.getD k 0).toNat < (tallyR (xs.length + 2) (xs.drop k)).length from (by omega)); simp only [List.length_cons, List.length_nil]; omega) (by simp) (cells_splice fI_len (show (xs.getD k 0).toNat < (tallyR (xs.length + 2) (xs.drop k)).length from (by omega)) (((tallyR (xs.length + 2) (xs.drop k)).getD ((xs.getD k 0).toNat) 0) - 1))) (kn0 ?_)
          refine wa_done (by kernel_rfl) ?_
          refine ce_block ?_
          refine ce_then ?_
          refine cw_region ?_
          refine wl_v (ov_move rfl) rfl rfl rfl ?_
          refine wl_v (ov_add (r := ((k + 1 : Nat) : Int)) rfl rfl rfl (by omega)) rfl rfl rfl ?_
          refine wl_v (ov_assign rfl) rfl rfl rfl ?_
          refine wl_nil ?_
          exact fun ac_ w_ hs_ => hR1 (k + 1) A69 c69 A2_65 c2_65 ⟨by omega, h69, by rw [hnx]; exact h_65⟩ (by omega) ac_ w_ (hs_.weaken (.cons rfl (.cons rfl (.cons rfl (.cons rfl (.cons rfl (.cons rfl (.cons rfl (.nil)))))))) (.consE (show row 3 1 A69 (k + 1) (c69) (cells fI ((goneTo (xs.length + 2) xs k) ++ ([((v : Nat) : Int)]))) = row 3 1 A69 ((k + 1)) (c69) (cells fI (goneTo (xs.length + 2) xs (k + 1))) by rw [goneTo_succ hle, hvl]) (.tail .head) (.consE (show row 3 1 (some ⟨g19, 0, none⟩) (xs.length + 2) (xs.length + 2) (cells fI ((tallyR (xs.length + 2) (xs.drop k)).set ((xs.getD k 0).toNat) (((tallyR (xs.length + 2) (xs.drop k)).getD ((xs.getD k 0).toNat) 0) - 1))) = row 3 1 (some ⟨g19, 0, none⟩) (xs.length + 2) (xs.length + 2) (cells fI (tallyR (xs.length + 2) (xs.drop (k + 1)))) by rw [← tally_down (by omega) hck]) (.head) (.consE (show blk g4 [.int .i64 (((xs.length + 2 : Nat) : Int)), .slice A2_65 ((insE (srtE (edgTo (xs.length + 2) xs k)) (edg ((v : Nat) : Int) (xs.getD k 0))).length) (c2_65)] 25 = blk g4 [.int .i64 (((xs.length + 2 : Nat) : Int)), .slice A2_65 ((srtE (edgTo (xs.length + 2) xs (k + 1))).length) (c2_65)] 25 by rw [hnx]) (.tail .head) (.consE (show row 65 2 A2_65 ((insE (srtE (edgTo (xs.length + 2) xs k)) (edg ((v : Nat) : Int) (xs.getD k 0))).length) (c2_65) (cells fE (insE (srtE (edgTo (xs.length + 2) xs k)) (edg ((v : Nat) : Int) (xs.getD k 0)))) = row 65 2 A2_65 ((srtE (edgTo (xs.length + 2) xs (k + 1))).length) (c2_65) (cells fE (srtE (edgTo (xs.length + 2) xs (k + 1)))) by rw [hnx]) (.tail .head) (.cons (.tail (.tail .head)) (.nil)))))))
    ·
      refine wl_nil ?_
      refine ce_then ?_
      refine cw_false rfl ?_
      refine cw_exit ?_
      refine ce_then_exit ?_
      refine ce_then_exit ?_
      refine ce_hit ?_
      refine ce_then ?_
      refine cw_seq ?_
      refine cw_region ?_
      refine wl_r (or_buildSlice (e := 3) (size := 1) (is := []) (vs := []) (cs := cells fI ([])) rfl rfl rfl (by decide) (fun _ => by kernel_rfl)) rfl rfl (kt1 rfl (fun g84 => ?_))
      refine wl_v (ov_assign rfl) rfl rfl rfl ?_
      refine wl_nil ?_
      refine ce_then ?_
      refine cw_seq ?_
      refine cw_seq ?_
      refine cw_region ?_
      refine wl_v (ov_assign rfl) rfl rfl rfl ?_
      refine wl_nil ?_
      refine ce_then ?_
      refine cw_block ?_
      refine cw_loop3 (fun (i : Nat) (A9 : Option Addr) (c9 : Nat) => [(2, elp (some ⟨g2, 0, none⟩) (0)), (3, .int .i64 (((xs.length + 2 : Nat) : Int))), (4, elp (some ⟨g4, 0, none⟩) (0)), (7, .slice A7 (k) (c7)), (10, .slice A9 ((lastOf i (goneTo (xs.length + 2) xs k)).length) (c9)), (11, .int .i64 (((i : Nat) : Int)))]) (fun (i : Nat) (A9 : Option Addr) (c9 : Nat) => [row 3 1 A9 ((lastOf i (goneTo (xs.length + 2) xs k)).length) (c9) (cells fI (lastOf i (goneTo (xs.length + 2) xs k))), row 3 1 A7 (k) (c7) (cells fI (goneTo (xs.length + 2) xs k)), row 3 1 (some ⟨g19, 0, none⟩) (xs.length + 2) (xs.length + 2) (cells fI (tallyR (xs.length + 2) (xs.drop k))), blk g4 [.int .i64 (((xs.length + 2 : Nat) : Int)), .slice A4 ((srtE (edgTo (xs.length + 2) xs k)).length) (c4)] 25, row 65 2 A4 ((srtE (edgTo (xs.length + 2) xs k)).length) (c4) (cells fE (srtE (edgTo (xs.length + 2) xs k))), blk g2 [.int .i64 (0), .slice none (0) (0)] 25]) (fun (i : Nat) (A9 : Option Addr) (c9 : Nat) => i ≤ xs.length + 2 ∧ (lastOf i (goneTo (xs.length + 2) xs k)).length ≤ c9) (fun (i : Nat) (A9 : Option Addr) (c9 : Nat) => xs.length + 2 - i) 0 (some ⟨g84, 0, none⟩) 0 ⟨by omega, Nat.le_refl _⟩ (.cons rfl (.cons rfl (.cons rfl (.cons rfl (.cons (congrArg (fun z => some (Value.slice (some ⟨g84, 0, none⟩) z 0)) (show 0 = ((lastOf 0 (goneTo (xs.length + 2) xs k)).length) from rfl)) (.cons (congrArg (fun z => some (Value.int .i64 z)) (show 0 = ((0 : Nat) : Int) by first | omega | rfl | (simp; done))) (.nil))))))) (.consE (show row 3 1 (some ⟨g84, 0, none⟩) (0) (0) (cells fI ([])) = row 3 1 (some ⟨g84, 0, none⟩) ((lastOf 0 (goneTo (xs.length + 2) xs k)).length) (0) (cells fI (lastOf 0 (goneTo (xs.length + 2) xs k))) by rfl) (.head) (.cons (.head) (.cons (.head) (.cons (.head) (.cons (.head) (.cons (.head) (.nil))))))) ?_
      intro R3 i A9 c9 hk3 hR3
      obtain ⟨hi1, hi2⟩ := hk3
      have hlo := lastOf_le i (goneTo (xs.length + 2) xs k)
      refine cw_seq ?_
      refine cw_seq ?_
      refine cw_region ?_
      refine wl_v (ov_move rfl) rfl rfl rfl ?_
      refine wl_v (ov_move rfl) rfl rfl rfl ?_
      refine wl_if (ov_lss rfl rfl) rfl rfl rfl (fun c87 => ?_) (fun c87 => ?_)
      ·
        refine wl_nil ?_
        refine ce_then ?_
        refine cw_true rfl ?_
        refine cw_skip ?_
        refine ce_then ?_
        refine cw_seq ?_
        refine cw_block ?_
        refine cw_seq ?_
        refine cw_region ?_
        refine wl_v (ov_move rfl) rfl rfl rfl ?_
        refine wl_v (ov_move rfl) rfl rfl rfl ?_
        refine wl_r (or_call (fv := []) (vs := [.slice A7 (k) (c7), .int .i64 (((i : Nat) : Int))]) (cs := []) en86 rfl rfl (call_v (fun w hw => hasInt_c w A7 k c7 (goneTo (xs.length + 2) xs k) ((i : Nat) : Int) ((holds_row (List.Mem.tail _ (List.Mem.head _))) w hw) (goneTo_length _ _ _) hq2 (by omega)))) rfl rfl (kt_if rfl (fun c92 => ?_) (fun c92 => ?_))
        ·
          refine wl_v (ov_not rfl) rfl rfl rfl ?_
          refine wl_nil ?_
          refine ce_then ?_
          refine cw_false rfl ?_
          refine cw_skip ?_
          refine ce_block ?_
          refine ce_then ?_
          refine cw_region ?_
          refine wl_v (ov_move rfl) rfl rfl rfl ?_
          refine wl_v (ov_add (r := ((i + 1 : Nat) : Int)) rfl rfl rfl (by omega)) rfl rfl rfl ?_
          refine wl_v (ov_assign rfl) rfl rfl rfl ?_
          refine wl_nil ?_
          exact fun ac_ w_ hs_ => hR3 (i + 1) A9 c9 ⟨by omega, by rw [lastOf_f c92]; exact hi2⟩ (by omega) ac_ w_ (hs_.weaken (.cons rfl (.cons rfl (.cons rfl (.cons rfl (.cons (congrArg (fun z => some (Value.slice A9 z c9)) (show ((lastOf i (goneTo (xs.length + 2) xs k)).length) = ((lastOf (i + 1) (goneTo (xs.length + 2) xs k)).length) from (by rw [lastOf_f c92]))) (.cons rfl (.nil))))))) (.consE (show row 3 1 A9 ((lastOf i (goneTo (xs.length + 2) xs k)).length) (c9) (cells fI (lastOf i (goneTo (xs.length + 2) xs k))) = row 3 1 A9 ((lastOf (i + 1) (goneTo (xs.length + 2) xs k)).length) (c9) (cells fI (lastOf (i + 1) (goneTo (xs.length + 2) xs k))) by rw [lastOf_f c92]) (.head) (.cons (.head) (.cons (.head) (.cons (.head) (.cons (.head) (.cons (.head) (.nil))))))))
        ·
          refine wl_v (ov_not rfl) rfl rfl rfl ?_
          refine wl_nil ?_
          refine ce_then ?_
          refine cw_true rfl ?_
          refine cw_region ?_
          refine wl_v (ov_move rfl) rfl rfl rfl ?_
          refine wl_v (ov_move rfl) rfl rfl rfl ?_
          refine wl_r (or_buildSlice (e := 3) (size := 1) (is := [0]) (vs := [.int .i64 (((i : Nat) : Int))]) (cs := cells fI ([((i : Nat) : Int)])) rfl rfl rfl (by decide) (fun _ => by kernel_rfl)) rfl rfl (kt1 rfl (fun g96 => ?_))
          refine wl_r (or_append (c2 := 1) sI38 tI3 rfl (by decide) rfl rfl (.tail .head) (holds_row (List.Mem.head _)) (by rw [cells_length fI_len]; try simp) (one_cells fI_one _) cells_append (by omega) (by omega)) rfl rfl (kt2p rfl (fun A97 c97 h97 => ?_))
          refine wl_v (ov_assign rfl) rfl rfl rfl ?_
          refine wl_nil ?_
          refine ce_block ?_
          refine ce_then ?_
          refine cw_region ?_
          refine wl_v (ov_move rfl) rfl rfl rfl ?_
          refine wl_v (ov_add (r := ((i + 1 : Nat) : Int)) rfl rfl rfl (by omega)) rfl rfl rfl ?_
          refine wl_v (ov_assign rfl) rfl rfl rfl ?_
          refine wl_nil ?_
          exact fun ac_ w_ hs_ => hR3 (i + 1) A97 c97 ⟨by omega, by rw [lastOf_t c92, List.length_append]; exact h97⟩ (by omega) ac_ w_ (hs_.weaken (.cons rfl (.cons rfl (.cons rfl (.cons rfl (.cons (congrArg (fun z => some (Value.slice A97 z c97)) (show (((lastOf i (goneTo (xs.length + 2) xs k)).length) + 1) = ((lastOf (i + 1) (goneTo (xs.length + 2) xs k)).length) from (by rw [lastOf_t c92, List.length_append]; rfl))) (.cons rfl (.nil))))))) (.consE (show row 3 1 A97 (((lastOf i (goneTo (xs.length + 2) xs k)).length) + 1) (c97) (cells fI ((lastOf i (goneTo (xs.length + 2) xs k)) ++ ([((i : Nat) : Int)]))) = row 3 1 A97 ((lastOf (i + 1) (goneTo (xs.length + 2) xs k)).length) (c97) (cells fI (lastOf (i + 1) (goneTo (xs.length + 2) xs k))) by rw [lastOf_t c92, List.length_append]; rfl) (.head) (.cons (.tail .head) (.cons (.tail .head) (.cons (.tail .head) (.cons (.tail .head) (.cons (.tail .head) (.nil))))))))
      ·
        have hkk : k = xs.length := by omega
        have hii : i = xs.length + 2 := by omega
        obtain ⟨a, b, hab⟩ := last_ok hc
        have hlq : lastOf i (goneTo (xs.length + 2) xs k) = [a, b] := by rw [hkk, hii]; exact hab.eq
        have hln : (lastOf i (goneTo (xs.length + 2) xs k)).length = 2 := by rw [hlq]; rfl
        have hres : insE (srtE (edgTo (xs.length + 2) xs k)) (edg a b) = treeT (xs.length + 2) xs := by rw [hkk]; exact last_tree hab
        refine wl_nil ?_
        refine ce_then ?_
        refine cw_false rfl ?_
        refine cw_exit ?_
        refine ce_then_exit ?_
        refine ce_then_exit ?_
        refine ce_hit ?_
        refine ce_then ?_
        refine cw_seq ?_
        refine cw_draw mixO [8] (.cons (.head) (.cons (.head) (.cons (.head) (.cons (.head) (.cons (.head) (.cons (.head) (.nil))))))) rfl ?_
        refine wg_take (i := 0) rfl (ov_loadAgg (vs := [.int .i64 (((xs.length + 2 : Nat) : Int)), .slice A4 ((srtE (edgTo (xs.length + 2) xs k)).length) (c4)]) tI25 (holds_blk (List.Mem.tail _ (List.Mem.tail _ (List.Mem.tail _ (List.Mem.head _))))) rfl some_lit rfl rfl) rfl rfl rfl (by kernel_rfl) (by kernel_rfl) (by kernel_rfl) (by kernel_rfl) ?_
        refine wg_takep (i := 1) rfl (ov_move rfl) rfl rfl rfl (by kernel_rfl) (by kernel_rfl) (by kernel_rfl) rfl ?_
        refine wg_take (i := 2) rfl (ov_index (k := 0) (c := c9) sI38 tI3 rfl rfl (some_holds (q := 0 * 1) (holds_row (List.Mem.head _)) (by rw [cells_length fI_len]; have hlt : 0 < (lastOf i (goneTo (xs.length + 2) xs k)).length := (by omega); omega)) (show 0 < (lastOf i (goneTo (xs.length + 2) xs k)).length from (by omega))) rfl rfl rfl (by kernel_rfl) (by kernel_rfl) (by kernel_rfl) (by kernel_rfl) ?_
        refine wg_take (i := 3) rfl (ov_load tI3 (holds_row (List.Mem.head _)) rfl ((get_fI (show 0 < (lastOf i (goneTo (xs.length + 2) xs k)).length from (by omega))).trans (congrArg (fun z => some (Value.int .i64 z)) (show ((lastOf i (goneTo (xs.length + 2) xs k)).getD 0 0) = a from (by rw [hlq] <;> rfl))))) rfl rfl rfl (by kernel_rfl) (by kernel_rfl) (by kernel_rfl) (by kernel_rfl) ?_
        refine wg_takep (i := 4) rfl (ov_move rfl) rfl rfl rfl (by kernel_rfl) (by kernel_rfl) (by kernel_rfl) rfl ?_
        refine wg_take (i := 5) rfl (ov_index (k := 1) (c := c9) sI38 tI3 rfl rfl (some_holds (q := 1 * 1) (holds_row (List.Mem.head _)) (by rw [cells_length fI_len]; have hlt : 1 < (lastOf i (goneTo (xs.length + 2) xs k)).length := (by omega); omega)) (show 1 < (lastOf i (goneTo (xs.length + 2) xs k)).length from (by omega))) rfl rfl rfl (by kernel_rfl) (by kernel_rfl) (by kernel_rfl) (by kernel_rfl) ?_
        refine wg_take (i := 6) rfl (ov_load tI3 (holds_row (List.Mem.head _)) rfl ((get_fI (show 1 < (lastOf i (goneTo (xs.length + 2) xs k)).length from (by omega))).trans (congrArg (fun z => some (Value.int .i64 z)) (show ((lastOf i (goneTo (xs.length + 2) xs k)).getD 1 0) = b from (by rw [hlq] <;> rfl))))) rfl rfl rfl (by kernel_rfl) (by kernel_rfl) (by kernel_rfl) (by kernel_rfl) ?_
        refine wg_one (i := 7) (by kernel_rfl) ?_
        refine go_r rfl rfl rfl rfl (or_call (fv := []) (vs := [.agg #[.int .i64 (((xs.length + 2 : Nat) : Int)), .slice A4 ((srtE (edgTo (xs.length + 2) xs k)).length) (c4)], .int .i64 (a), .int .i64 (b)]) (cs := []) en94 rfl rfl (call_x2 (fun w hw => addEdgeX_c w ((xs.length + 2 : Nat) : Int) A4 ((srtE (edgTo (xs.length + 2) xs k)).length) c4 (srtE (edgTo (xs.length + 2) xs k)) a b ((holds_row (List.Mem.tail _ (List.Mem.tail _ (List.Mem.tail _ (List.Mem.tail _ (List.Mem.head _)))))) w hw) rfl hq3 (by omega)))) (kt2p rfl (fun A2_105 c2_105 h_105 => ?_))
        refine gk (.cons (.tail .head) (.cons (.tail .head) (.cons (.tail .head) (.cons (.tail .head) (.cons (.tail .head) (.cons (.tail .head) (.nil))))))) ?_
        refine wg_one (i := 8) (by kernel_rfl) ?_
        refine go_late0 rfl rfl rfl rfl (or_store_blk (vs := [.int .i64 (((xs.length + 2 : Nat) : Int)), .slice A2_105 ((insE (srtE (edgTo (xs.length + 2) xs k)) (edg a b)).length) (c2_105)]) (cs' := [.int .i64 (((xs.length + 2 : Nat) : Int)), .slice A2_105 ((insE (srtE (edgTo (xs.length + 2) xs k)) (edg a b)).length) (c2_105)]) (.tail (.tail (.tail (.tail (.tail (.tail .head)))))) tI25 rfl rfl rfl rfl (Nat.le_of_ble_eq_true rfl) rfl) (kn0 ?_)
        refine wa_done (by kernel_rfl) ?_
        refine ce_then ?_
        refine cw_ret ?_
        refine ce_results (v := .agg #[.int .i64 (((xs.length + 2 : Nat) : Int)), .slice A2_105 ((insE (srtE (edgTo (xs.length + 2) xs k)) (edg a b)).length) (c2_105)]) (res1 rfl (rv_c rfl tI25 rfl (List.Mem.head _))) (fun w' hw => ?_)
        exact ⟨A2_105, c2_105, (by rw [← hres]; exact h_105), (by rw [← hres]), ((.consE (show row 65 2 A2_105 ((insE (srtE (edgTo (xs.length + 2) xs k)) (edg a b)).length) (c2_105) (cells fE (insE (srtE (edgTo (xs.length + 2) xs k)) (edg a b))) = row 65 2 A2_105 ((treeT (xs.length + 2) xs).length) (c2_105) (cells fE (treeT (xs.length + 2) xs)) by rw [← hres]) (.tail .head) (.nil) : Keep _ _).ss hw).to_new⟩
set_option maxRecDepth 100000 in
theorem TreeOfCodeS_c (w : World) (A : Option Addr) (n : Nat) (c : Nat) (xs : List (Int)) (hA : At w A (cells fI xs)) (eA : xs.length = n) (lA : n ≤ c) (hs : xs.length ≤ 4000000) : Calls Try.prog 22 #[.slice A (n) (c)] w (Ret fun rv w' => ∃ A2 k2 c2, ((tocV xs).2.1.length ≤ k2) ∧ rv = .tuple #[.agg #[.int .i64 ((tocV xs).1), .slice A2 ((tocV xs).2.1.length) (k2)], .bool ((tocV xs).2.2)] ∧ New w w' [row 65 2 A2 ((tocV xs).2.1.length) (c2) (cells fE ((tocV xs).2.1))]) := by
  have oA := hA.atB
  subst eA
  refine fn_enter (args := [.slice A (xs.length) (c)]) Try.func22 rfl Try.ntmps22 rfl (SS.start w) ?_
  refine cw_seq ?_
  refine cw_region ?_
  refine wl_r (or_alloc tI25 rfl) rfl rfl (kt1 rfl (fun g2 => ?_))
  refine wl_v (ov_assign rfl) rfl rfl rfl ?_
  refine wl_nil ?_
  refine ce_then ?_
  refine cw_seq ?_
  refine cw_seq ?_
  refine cw_region ?_
  refine wl_v (ov_move rfl) rfl rfl rfl ?_
  refine wl_r (or_call (fv := []) (vs := [.slice A (xs.length) (c)]) (cs := []) en57 rfl rfl (call_v (fun w hw => validCode_c w A xs.length c xs ((holds_old oA) w hw) rfl lA (by first | assumption | omega | (simp; omega))))) rfl rfl (kt_if rfl (fun c5 => ?_) (fun c5 => ?_))
  ·
    have hv : tocV xs = (((xs.length + 2 : Nat) : Int), treeT (xs.length + 2) xs, true) := if_pos c5
    have hc := c5.code
    have hl := c5.2
    refine wl_v (ov_not rfl) rfl rfl rfl ?_
    refine wl_nil ?_
    refine ce_then ?_
    refine cw_false rfl ?_
    refine cw_skip ?_
    refine ce_then ?_
    refine cw_seq ?_
    refine cw_region ?_
    refine wl_v (ov_move rfl) rfl rfl rfl ?_
    refine wl_r (or_call (fv := []) (vs := [.slice A (xs.length) (c)]) (cs := []) en58 rfl rfl (call_x2 (fun w hw => codeTreeS_c w A xs.length c xs ((holds_old oA) w hw) rfl lA (by first | assumption | omega | (simp; omega)) (by omega)))) rfl rfl (kt2p rfl (fun A2_9 c2_9 h_9 => ?_))
    refine wl_r0 (or_store_blk (vs := [.int .i64 (((xs.length + 2 : Nat) : Int)), .slice A2_9 ((treeT (xs.length + 2) xs).length) (c2_9)]) (cs' := [.int .i64 (((xs.length + 2 : Nat) : Int)), .slice A2_9 ((treeT (xs.length + 2) xs).length) (c2_9)]) (.tail .head) tI25 rfl rfl rfl rfl (Nat.le_of_ble_eq_true rfl) rfl) rfl rfl (kn0 ?_)
    refine wl_v (ov_assign rfl) rfl rfl rfl ?_
    refine wl_nil ?_
    refine ce_then ?_
    refine cw_ret ?_
    refine ce_results (v := .tuple #[.agg #[.int .i64 (((xs.length + 2 : Nat) : Int)), .slice A2_9 ((treeT (xs.length + 2) xs).length) (c2_9)], .bool true]) (res2 rfl (rv_c rfl tI25 rfl (List.Mem.head _)) (rv_t rfl)) (fun w' hw => ?_)
    exact ⟨A2_9, c2_9, c2_9, (by rw [hv]; exact h_9), (by rw [hv]), ((.consE (show row 65 2 A2_9 ((treeT (xs.length + 2) xs).length) (c2_9) (cells fE (treeT (xs.length + 2) xs)) = row 65 2 A2_9 ((tocV xs).2.1.length) (c2_9) (cells fE ((tocV xs).2.1)) by rw [hv]) (.tail .head) (.nil) : Keep _ _).ss hw).to_new⟩
  ·
    refine wl_v (ov_not rfl) rfl rfl rfl ?_
    refine wl_nil ?_
    refine ce_then ?_
    refine cw_true rfl ?_
    refine cw_seq ?_
    have hv : tocV xs = (0, [], false) := if_neg c5
    refine ct_none fE 65 2 ?_
    refine cw_region ?_
    refine wl_v (ov_build (is := []) (vs := []) (v := .agg #[.int .i64 (0), .slice none (0) (0)]) rfl rfl (fun _ => by kernel_rfl)) rfl rfl rfl ?_
    refine wl_r0 (or_store_blk (vs := [.int .i64 (0), .slice none (0) (0)]) (cs' := [.int .i64 (0), .slice none (0) (0)]) (.tail .head) tI25 rfl rfl rfl rfl (Nat.le_of_ble_eq_true rfl) rfl) rfl rfl (kn0 ?_)
    refine wl_v (ov_assign rfl) rfl rfl rfl ?_
    refine wl_nil ?_
    refine ce_then ?_
    refine cw_ret ?_
    refine ce_then_ret ?_
    refine ce_results (v := .tuple #[.agg #[.int .i64 (0), .slice none (0) (0)], .bool false]) (res2 rfl (rv_c rfl tI25 rfl (List.Mem.head _)) (rv_t rfl)) (fun w' hw => ?_)
    exact ⟨none, 0, 0, (by rw [hv]; exact Nat.le_refl _), (by rw [hv] <;> rfl), ((.consE (show row 65 2 none (0) (0) (cells fE ([])) = row 65 2 none ((tocV xs).2.1.length) (0) (cells fE ((tocV xs).2.1)) by rw [hv] <;> rfl) (.tail .head) (.nil) : Keep _ _).ss hw).to_new⟩
set_option maxRecDepth 100000 in
theorem TreeOfCodeI_c (w : World) (A : Option Addr) (n : Nat) (c : Nat) (xs : List (Int)) (hA : At w A (cells fI xs)) (eA : xs.length = n) (lA : n ≤ c) (hs : xs.length ≤ 4000000) : Calls Try.prog 24 #[.slice A (n) (c)] w (Ret fun rv w' => ∃ A2 k2 c2, ((tocV xs).2.1.length ≤ k2) ∧ rv = .tuple #[.agg #[.int .i64 ((tocV xs).1), .slice A2 ((tocV xs).2.1.length) (k2)], .bool ((tocV xs).2.2)] ∧ New w w' [row 65 2 A2 ((tocV xs).2.1.length) (c2) (cells fE ((tocV xs).2.1))]) := by
  have oA := hA.atB
  subst eA
  refine fn_enter (args := [.slice A (xs.length) (c)]) Try.func24 rfl Try.ntmps24 rfl (SS.start w) ?_
  refine cw_seq ?_
  refine cw_region ?_
  refine wl_r (or_alloc tI25 rfl) rfl rfl (kt1 rfl (fun g2 => ?_))
  refine wl_v (ov_assign rfl) rfl rfl rfl ?_
  refine wl_nil ?_
  refine ce_then ?_
  refine cw_seq ?_
  refine cw_region ?_
  refine wl_v (ov_move rfl) rfl rfl rfl ?_
  refine wl_v (ov_len (sliceI_spec sI38) rfl) rfl rfl rfl ?_
  refine wl_v (ov_add (r := ((xs.length + 2 : Nat) : Int)) rfl rfl rfl (by omega)) rfl rfl rfl ?_
  refine wl_v (ov_assign rfl) rfl rfl rfl ?_
  refine wl_nil ?_
  refine ce_then ?_
  refine cw_seq ?_
  refine cw_seq ?_
  refine cw_region ?_
  refine wl_v (ov_move rfl) rfl rfl rfl ?_
  refine wl_if (ov_gtr rfl rfl) rfl rfl rfl (fun c17 => ?_) (fun c17 => ?_)
  ·
    refine wl_v (ov_move rfl) rfl rfl rfl ?_
    refine wl_not rfl rfl rfl rfl rfl rfl ?_
    refine wl_not rfl rfl rfl rfl rfl rfl ?_
    refine wl_not rfl rfl rfl rfl rfl rfl ?_
    refine wl_not rfl rfl rfl rfl rfl rfl ?_
    refine wl_not rfl rfl rfl rfl rfl rfl ?_
    refine wl_v (ov_pick_t rfl rfl) rfl rfl rfl ?_
    refine wl_nil ?_
    refine ce_then ?_
    refine cw_true rfl ?_
    refine cw_seq ?_
    have hv : tocV xs = (0, [], false) := if_neg (fun h => by have := h.2; omega)
    refine ct_none fE 65 2 ?_
    refine cw_region ?_
    refine wl_v (ov_build (is := []) (vs := []) (v := .agg #[.int .i64 (0), .slice none (0) (0)]) rfl rfl (fun _ => by kernel_rfl)) rfl rfl rfl ?_
    refine wl_r0 (or_store_blk (vs := [.int .i64 (0), .slice none (0) (0)]) (cs' := [.int .i64 (0), .slice none (0) (0)]) (.tail .head) tI25 rfl rfl rfl rfl (Nat.le_of_ble_eq_true rfl) rfl) rfl rfl (kn0 ?_)
    refine wl_v (ov_assign rfl) rfl rfl rfl ?_
    refine wl_nil ?_
    refine ce_then ?_
    refine cw_ret ?_
    refine ce_then_ret ?_
    refine ce_results (v := .tuple #[.agg #[.int .i64 (0), .slice none (0) (0)], .bool false]) (res2 rfl (rv_c rfl tI25 rfl (List.Mem.head _)) (rv_t rfl)) (fun w' hw => ?_)
    exact ⟨none, 0, 0, (by rw [hv]; exact Nat.le_refl _), (by rw [hv] <;> rfl), ((.consE (show row 65 2 none (0) (0) (cells fE ([])) = row 65 2 none ((tocV xs).2.1.length) (0) (cells fE ((tocV xs).2.1)) by rw [hv] <;> rfl) (.tail .head) (.nil) : Keep _ _).ss hw).to_new⟩
  ·
    refine wl_v (ov_move rfl) rfl rfl rfl ?_
    refine wl_go rfl rfl ?_
    refine wl_v (ov_move rfl) rfl rfl rfl ?_
    refine wl_go rfl rfl ?_
    refine wl_v (ov_move rfl) rfl rfl rfl ?_
    refine wl_go rfl rfl ?_
    refine wl_v (ov_sub (r := ((xs.length + 2 : Nat) : Int) - 1) rfl rfl rfl (by omega)) rfl rfl rfl ?_
    refine wl_go rfl rfl ?_
    refine wl_r (or_call (fv := []) (vs := [.slice A (xs.length) (c), .int .i64 (0), .int .i64 (((xs.length + 2 : Nat) : Int) - 1)]) (cs := []) en59 rfl rfl (call_v (fun w hw => allIn_c w A xs.length c xs 0 (((xs.length + 2 : Nat) : Int) - 1) ((holds_old oA) w hw) rfl lA (by first | assumption | omega | (simp; omega))))) rfl rfl (kt_if rfl (fun c22 => ?_) (fun c22 => ?_))
    ·
      have hT : TCP xs := ⟨fun x hx => by have := c22 x hx; omega, by omega⟩
      have hc := hT.code
      have hl5 := hT.2
      have hv : tocV xs = (((xs.length + 2 : Nat) : Int), treeT (xs.length + 2) xs, true) := if_pos hT
      refine wl_go rfl rfl ?_
      refine wl_v (ov_not rfl) rfl rfl rfl ?_
      refine wl_v (ov_pick_f rfl rfl) rfl rfl rfl ?_
      refine wl_nil ?_
      refine ce_then ?_
      refine cw_false rfl ?_
      refine cw_skip ?_
      refine ce_then ?_
      refine cw_seq ?_
      refine cw_region ?_
      refine wl_v (ov_move rfl) rfl rfl rfl ?_
      refine wl_r (or_makeSlice (m := xs.length + 2) sI38 tI3 rfl rfl (made_fI _) (by omega) (show xs.length + 2 ≤ maxLen by simp only [maxLen]; omega)) rfl rfl (kt1 rfl (fun g27 => ?_))
      refine wl_v (ov_assign rfl) rfl rfl rfl ?_
      refine wl_nil ?_
      refine ce_then ?_
      refine cw_seq ?_
      refine cw_seq ?_
      refine cw_region ?_
      refine wl_v (ov_move rfl) rfl rfl rfl ?_
      refine wl_v (ov_len (sliceI_spec sI38) rfl) rfl rfl rfl ?_
      refine wl_v (ov_move rfl) rfl rfl rfl ?_
      refine wl_nil ?_
      refine ce_then ?_
      refine cw_block ?_
      refine cw_loop1 (fun (i : Nat) => [(0, .slice A (xs.length) (c)), (2, elp (some ⟨g2, 0, none⟩) (0)), (3, .bool false), (4, .int .i64 (((xs.length + 2 : Nat) : Int))), (5, .slice (some ⟨g27, 0, none⟩) (xs.length + 2) (xs.length + 2)), (29, .int .i64 (((xs.length + 2 : Nat) : Int))), (30, .int .i64 (((i : Nat) : Int)))]) (fun (i : Nat) => [row 3 1 (some ⟨g27, 0, none⟩) (xs.length + 2) (xs.length + 2) (cells fI ((leftR (xs.length + 2) [] xs).take i ++ List.replicate (xs.length + 2 - i) 0)), blk g2 [.int .i64 (0), .slice none (0) (0)] 25]) (fun (i : Nat) => i ≤ xs.length + 2) (fun (i : Nat) => xs.length + 2 - i) 0 (by omega) (.cons rfl (.cons rfl (.cons rfl (.cons rfl (.cons rfl (.cons rfl (.cons (congrArg (fun z => some (Value.int .i64 z)) (show 0 = ((0 : Nat) : Int) by first | omega | rfl | (simp; done))) (.nil)))))))) (.consE (show row 3 1 (some ⟨g27, 0, none⟩) (xs.length + 2) (xs.length + 2) (cells fI (List.replicate (xs.length + 2) 0)) = row 3 1 (some ⟨g27, 0, none⟩) (xs.length + 2) (xs.length + 2) (cells fI ((leftR (xs.length + 2) [] xs).take 0 ++ List.replicate (xs.length + 2 - 0) 0)) by rw [List.take_zero, List.nil_append, Nat.sub_zero]) (.head) (.cons (.head) (.nil))) ?_
      intro R0 i hk hR0
      have hrl : ((leftR (xs.length + 2) [] xs).take i ++ List.replicate (xs.length + 2 - i) 0).length = xs.length + 2 := by rw [List.length_append, List.length_take, leftR_length, List.length_replicate]; omega
      have hcb := countI_bd (fun x => decide (x = ((i : Nat) : Int))) xs
      refine cw_seq ?_
      refine cw_region ?_
      refine wl_if (ov_lss rfl rfl) rfl rfl rfl (fun c31 => ?_) (fun c31 => ?_)
      ·
        refine wl_nil ?_
        refine ce_then ?_
        refine cw_seq ?_
        refine cw_true rfl ?_
        refine cw_skip ?_
        refine ce_then ?_
        refine cw_seq ?_
        refine cw_block ?_
        refine cw_seq ?_
        refine cw_region ?_
        refine wl_v (ov_move rfl) rfl rfl rfl ?_
        refine wl_r (or_alloc tI3 rfl) rfl rfl (kt1 rfl (fun g6 => ?_))
        refine wl_r0 (or_store_blk (vs := [.int .i64 (((i : Nat) : Int))]) (cs' := [.int .i64 (((i : Nat) : Int))]) (.head) tI3 rfl rfl rfl rfl (Nat.le_of_ble_eq_true rfl) rfl) rfl rfl (kn0 ?_)
        refine wl_nil ?_
        refine ce_then ?_
        refine cw_draw mixO [7] (.cons (.head) (.cons (.head) (.cons (.head) (.nil)))) rfl ?_
        refine wg_takep (i := 0) rfl (ov_move rfl) rfl rfl rfl (by kernel_rfl) (by kernel_rfl) (by kernel_rfl) rfl ?_
        refine wg_take (i := 1) rfl (ov_load tI3 (holds_blk (List.Mem.head _)) rfl rfl) rfl rfl rfl (by kernel_rfl) (by kernel_rfl) (by kernel_rfl) (by kernel_rfl) ?_
        refine wg_takep (i := 2) rfl (ov_move rfl) rfl rfl rfl (by kernel_rfl) (by kernel_rfl) (by kernel_rfl) rfl ?_
        refine wg_takep (i := 3) rfl (ov_makeFunc (vs := #[elp (some ⟨g6, 0, none⟩) (0)]) rfl) rfl rfl rfl (by kernel_rfl) (by kernel_rfl) (by kernel_rfl) rfl ?_
        refine wg_one (i := 4) (by kernel_rfl) ?_
        refine go_r rfl rfl rfl rfl (or_call (fv := []) (vs := [.slice A (xs.length) (c), .func (.func 61) #[] #[elp (some ⟨g6, 0, none⟩) (0)]]) (cs := []) en60 rfl rfl (call_v (fun w hw => count_c w A xs.length c xs 61 ([elp (some ⟨g6, 0, none⟩) (0)]) (fun x => decide (x = ((i : Nat) : Int))) ((holds_old oA) w hw) rfl lA (by first | assumption | omega | (simp; omega)) en61 (fun x hx w' hb => toc1_c w' x g6 ((i : Nat) : Int) ((holds_blk (List.Mem.head _)) w' (hw.later hb)))))) (kt0 rfl ?_)
        refine gk (.cons (.head) (.cons (.head) (.cons (.head) (.nil)))) ?_
        refine wg_takep (i := 5) rfl (ov_add (r := 1 + (countI (fun x => decide (x = ((i : Nat) : Int))) xs)) rfl rfl rfl (by omega)) rfl rfl rfl (by kernel_rfl) (by kernel_rfl) (by kernel_rfl) rfl ?_
        refine wg_take (i := 6) rfl (ov_index (k := i) (c := xs.length + 2) sI38 tI3 rfl rfl (some_holds (q := i * 1) (holds_row (List.Mem.tail _ (List.Mem.head _))) (by rw [cells_length fI_len]; have hlt : i < ((leftR (xs.length + 2) [] xs).take i ++ List.replicate (xs.length + 2 - i) 0).length := (by omega); omega)) (show i < xs.length + 2 from (by omega))) rfl rfl rfl (by kernel_rfl) (by kernel_rfl) (by kernel_rfl) (by kernel_rfl) ?_
        refine wg_one (i := 7) (by kernel_rfl) ?_
        refine go_late0 rfl rfl rfl rfl (or_store_row (vs := [.int .i64 (1 + (countI (fun x => decide (x = ((i : Nat) : Int))) xs))]) (cs' := cells fI (((leftR (xs.length + 2) [] xs).take i ++ List.replicate (xs.length + 2 - i) 0).set i (1 + (countI (fun x => decide (x = ((i : Nat) : Int))) xs)))) (.tail .head) tI3 rfl rfl rfl rfl (by rw [cells_length fI_len]; have hlt := (show i < ((leftR (xs.length + 2) [] xs).take i ++ List.replicate (xs.length + 2 - i) 0).length from (by omega)); simp only [List.length_cons, List.length_nil]; omega) (by simp) (cells_splice fI_len (show i < ((leftR (xs.length + 2) [] xs).take i ++ List.replicate (xs.length + 2 - i) 0).length from (by omega)) (1 + (countI (fun x => decide (x = ((i : Nat) : Int))) xs)))) (kn0 ?_)
        refine wa_done (by kernel_rfl) ?_
        refine ce_block ?_
        refine ce_then ?_
        refine cw_region ?_
        refine wl_v (ov_add (r := ((i + 1 : Nat) : Int)) rfl rfl rfl (by omega)) rfl rfl rfl ?_
        refine wl_v (ov_move rfl) rfl rfl rfl ?_
        refine wl_nil ?_
        exact fun ac_ w_ hs_ => hR0 (i + 1) (by omega) (by omega) ac_ w_ (hs_.weaken (.cons rfl (.cons rfl (.cons rfl (.cons rfl (.cons rfl (.cons rfl (.cons rfl (.nil)))))))) (.consE (show row 3 1 (some ⟨g27, 0, none⟩) (xs.length + 2) (xs.length + 2) (cells fI (((leftR (xs.length + 2) [] xs).take i ++ List.replicate (xs.length + 2 - i) 0).set i (1 + (countI (fun x => decide (x = ((i : Nat) : Int))) xs)))) = row 3 1 (some ⟨g27, 0, none⟩) (xs.length + 2) (xs.length + 2) (cells fI ((leftR (xs.length + 2) [] xs).take (i + 1) ++ List.replicate (xs.length + 2 - (i + 1)) 0)) by rw [← left_start (xs.length + 2) xs i (by omega)] <;> rfl) (.head) (.cons (.tail .head) (.nil))))
      ·
        refine wl_nil ?_
        refine ce_then ?_
        refine cw_seq ?_
        refine cw_false rfl ?_
        refine cw_exit ?_
        refine ce_then_exit ?_
        refine ce_then_exit ?_
        refine ce_hit ?_
        refine ce_then ?_
        refine cw_seq ?_
        refine cw_region ?_
        refine wl_v (ov_assign rfl) rfl rfl rfl ?_
        refine wl_nil ?_
        refine ce_then ?_
        refine cw_seq ?_
        refine cw_seq ?_
        refine ct_none fE 65 2 ?_
        refine cw_region ?_
        refine wl_v (ov_move rfl) rfl rfl rfl ?_
        refine wl_v (ov_len (sliceI_spec sI38) rfl) rfl rfl rfl ?_
        refine wl_v (ov_move rfl) rfl rfl rfl ?_
        refine wl_nil ?_
        refine ce_then ?_
        refine cw_block ?_
        refine cw_loop3 (fun (k : Nat) (A7 : Option Addr) (c7 : Nat) => [(2, elp (some ⟨g2, 0, none⟩) (0)), (3, .bool false), (4, .int .i64 (((xs.length + 2 : Nat) : Int))), (5, .slice (some ⟨g27, 0, none⟩) (xs.length + 2) (xs.length + 2)), (41, .slice A (xs.length) (c)), (42, .int .i64 (((xs.length : Nat) : Int))), (7, .slice A7 (k) (c7)), (43, .int .i64 (((k : Nat) : Int)))]) (fun (k : Nat) (A7 : Option Addr) (c7 : Nat) => [row 65 2 A7 (k) (c7) (cells fE (edgTo (xs.length + 2) xs k)), row 3 1 (some ⟨g27, 0, none⟩) (xs.length + 2) (xs.length + 2) (cells fI (leftR (xs.length + 2) (goneTo (xs.length + 2) xs k) (xs.drop k))), blk g2 [.int .i64 (0), .slice none (0) (0)] 25]) (fun (k : Nat) (A7 : Option Addr) (c7 : Nat) => k ≤ xs.length ∧ k ≤ c7) (fun (k : Nat) (A7 : Option Addr) (c7 : Nat) => xs.length - k) 0 none 0 ⟨by omega, Nat.le_refl _⟩ (.cons rfl (.cons rfl (.cons rfl (.cons rfl (.cons rfl (.cons rfl (.cons rfl (.cons (congrArg (fun z => some (Value.int .i64 z)) (show 0 = ((0 : Nat) : Int) by first | omega | rfl | (simp; done))) (.nil))))))))) (.consE (show row 65 2 none (0) (0) (cells fE ([])) = row 65 2 none (0) (0) (cells fE (edgTo (xs.length + 2) xs 0)) by rfl) (.head) (.consE (show row 3 1 (some ⟨g27, 0, none⟩) (xs.length + 2) (xs.length + 2) (cells fI ((leftR (xs.length + 2) [] xs).take i ++ List.replicate (xs.length + 2 - i) 0)) = row 3 1 (some ⟨g27, 0, none⟩) (xs.length + 2) (xs.length + 2) (cells fI (leftR (xs.length + 2) (goneTo (xs.length + 2) xs 0) (xs.drop 0))) by rw [left_full _ _ _ _ (by omega), List.drop_zero] <;> rfl) (.head) (.cons (.head) (.nil)))) ?_
        intro R1 k A7 c7 hk1 hR1
        obtain ⟨hk1, hk2⟩ := hk1
        have hrl := leftR_length (xs.length + 2) (goneTo (xs.length + 2) xs k) (xs.drop k)
        have hel := edgTo_length (xs.length + 2) xs k
        refine cw_seq ?_
        refine cw_region ?_
        refine wl_if (ov_lss rfl rfl) rfl rfl rfl (fun c44 => ?_) (fun c44 => ?_)
        ·
          obtain ⟨lf, hle, hll, hlf⟩ := leafNat hc (k := k) (by omega)
          have hck := hc.2 _ (getD_mem (xs := xs) (k := k) 0 (by omega))
          have hb1 := leftR_bd (xs.length + 2) (goneTo (xs.length + 2) xs k) (xs.drop k) lf
          have hb2 := leftR_bd (xs.length + 2) (goneTo (xs.length + 2) xs k) (xs.drop k) (xs.getD k 0).toNat
          have hdl : (xs.drop k).length ≤ 5 := by rw [List.length_drop]; omega
          refine wl_nil ?_
          refine ce_then ?_
          refine cw_seq ?_
          refine cw_true rfl ?_
          refine cw_skip ?_
          refine ce_then ?_
          refine cw_seq ?_
          refine cw_block ?_
          refine cw_seq ?_
          refine cw_region ?_
          refine wl_v (ov_index (k := k) (c := c) sI38 tI3 rfl rfl (some_holds (q := k * 1) (holds_old oA) (by rw [cells_length fI_len]; have hlt : k < xs.length := (by omega); omega)) (show k < xs.length from (by omega))) rfl rfl rfl ?_
          refine wl_v (ov_load tI3 (holds_old oA) rfl (get_fI (show k < xs.length from (by omega)))) rfl rfl rfl ?_
          refine wl_v (ov_assign rfl) rfl rfl rfl ?_
          refine wl_nil ?_
          refine ce_then ?_
          refine cw_seq ?_
          refine cw_region ?_
          refine wl_v (ov_move rfl) rfl rfl rfl ?_
          refine wl_r (or_call (fv := []) (vs := [.slice (some ⟨g27, 0, none⟩) (xs.length + 2) (xs.length + 2), .int .i64 (1)]) (cs := []) en50 rfl rfl (call_v (fun w hw => indexI_c w (some ⟨g27, 0, none⟩) (xs.length + 2) (xs.length + 2) (leftR (xs.length + 2) (goneTo (xs.length + 2) xs k) (xs.drop k)) 1 ((holds_row (List.Mem.tail _ (List.Mem.head _))) w hw) (by omega) (Nat.le_refl _) (by omega)))) rfl rfl (kt0 rfl ?_)
          refine ct_keep (L' := [(2, elp (some ⟨g2, 0, none⟩) (0)), (3, .bool false), (4, .int .i64 (((xs.length + 2 : Nat) : Int))), (5, .slice (some ⟨g27, 0, none⟩) (xs.length + 2) (xs.length + 2)), (7, .slice A7 (k) (c7)), (9, .int .i64 ((xs.getD k 0))), (41, .slice A (xs.length) (c)), (42, .int .i64 (((xs.length : Nat) : Int))), (43, .int .i64 (((k : Nat) : Int))), (44, .bool true), (45, elp A (k * 1)), (46, .int .i64 ((xs.getD k 0))), (47, .slice (some ⟨g27, 0, none⟩) (xs.length + 2) (xs.length + 2)), (48, .int .i64 (((lf : Nat) : Int)))]) (.cons rfl (.cons rfl (.cons rfl (.cons rfl (.cons rfl (.cons rfl (.cons rfl (.cons rfl (.cons rfl (.cons rfl (.cons rfl (.cons rfl (.cons rfl (.cons (congrArg (fun z => some (Value.int .i64 z)) (show (idxF (fun x => decide (x = 1)) (leftR (xs.length + 2) (goneTo (xs.length + 2) xs k) (xs.drop k))) = ((lf : Nat) : Int) from (left_leafN hle))) (.nil))))))))))))))) .refl ?_
          refine wl_v (ov_assign rfl) rfl rfl rfl ?_
          refine wl_nil ?_
          refine ce_then ?_
          refine cw_seq ?_
          refine cw_region ?_
          refine wl_v (ov_move rfl) rfl rfl rfl ?_
          refine wl_v (ov_move rfl) rfl rfl rfl ?_
          refine wl_v (ov_move rfl) rfl rfl rfl ?_
          refine wl_r (or_call (fv := []) (vs := [.int .i64 (((lf : Nat) : Int)), .int .i64 ((xs.getD k 0))]) (cs := []) en34 rfl rfl (call_v (fun w hw => edge_c w ((lf : Nat) : Int) (xs.getD k 0) ))) rfl rfl (kt0 rfl ?_)
          refine wl_r (or_buildSlice (e := 65) (size := 2) (is := [0]) (vs := [.agg #[.int .i64 (min ((lf : Nat) : Int) (xs.getD k 0)), .int .i64 (max ((lf : Nat) : Int) (xs.getD k 0))]]) (cs := cells fE ([(min ((lf : Nat) : Int) (xs.getD k 0), max ((lf : Nat) : Int) (xs.getD k 0))])) rfl rfl rfl (by decide) (fun _ => by kernel_rfl)) rfl rfl (kt1 rfl (fun g53 => ?_))
          refine wl_r (or_append (c2 := 1) sI23 tI65 rfl (by decide) rfl rfl (.tail .head) (holds_row (List.Mem.head _)) (by rw [cells_length fE_len]; try simp) (one_cells fE_one _) cells_append (by omega) (by omega)) rfl rfl (kt2p rfl (fun A54 c54 h54 => ?_))
          refine wl_v (ov_assign rfl) rfl rfl rfl ?_
          refine wl_nil ?_
          refine ce_then ?_
          refine cw_seq ?_
          refine cw_region ?_
          refine wl_v (ov_move rfl) rfl rfl rfl ?_
          refine wl_v (ov_move rfl) rfl rfl rfl ?_
          refine wl_v (ov_index (k := lf) (c := xs.length + 2) sI38 tI3 rfl rfl (some_holds (q := lf * 1) (holds_row (List.Mem.tail _ (List.Mem.tail _ (List.Mem.head _)))) (by rw [cells_length fI_len]; have hlt : lf < (leftR (xs.length + 2) (goneTo (xs.length + 2) xs k) (xs.drop k)).length := (by omega); omega)) (show lf < xs.length + 2 from (by omega))) rfl rfl rfl ?_
          refine wl_v (ov_load tI3 (holds_row (List.Mem.tail _ (List.Mem.tail _ (List.Mem.head _)))) rfl (get_fI (show lf < (leftR (xs.length + 2) (goneTo (xs.length + 2) xs k) (xs.drop k)).length from (by omega)))) rfl rfl rfl ?_
          refine wl_v (ov_sub (r := ((leftR (xs.length + 2) (goneTo (xs.length + 2) xs k) (xs.drop k)).getD lf 0) - 1) rfl rfl rfl (by omega)) rfl rfl rfl ?_
          refine wl_v (ov_index (k := lf) (c := xs.length + 2) sI38 tI3 rfl rfl (some_holds (q := lf * 1) (holds_row (List.Mem.tail _ (List.Mem.tail _ (List.Mem.head _)))) (by rw [cells_length fI_len]; have hlt : lf < (leftR (xs.length + 2) (goneTo (xs.length + 2) xs k) (xs.drop k)).length := (by omega); omega)) (show lf < xs.length + 2 from (by omega))) rfl rfl rfl ?_
          refine wl_r0 (or_store_row (vs := [.int .i64 (((leftR (xs.length + 2) (goneTo (xs.length + 2) xs k) (xs.drop k)).getD lf 0) - 1)]) (cs' := cells fI ((leftR (xs.length + 2) (goneTo (xs.length + 2) xs k) (xs.drop k)).set lf (((leftR (xs.length + 2) (goneTo (xs.length + 2) xs k) (xs.drop k)).getD lf 0) - 1))) (.tail (.tail .head)) tI3 rfl rfl rfl rfl (by rw [cells_length fI_len]; have hlt := (show lf < (leftR (xs.length + 2) (goneTo (xs.length + 2) xs k) (xs.drop k)).length from (by omega)); simp only [List.length_cons, List.length_nil]; omega) (by simp) (cells_splice fI_len (show lf < (leftR (xs.length + 2) (goneTo (xs.length + 2) xs k) (xs.drop k)).length from (by omega)) (((leftR (xs.length + 2) (goneTo (xs.length + 2) xs k) (xs.drop k)).getD lf 0) - 1))) rfl rfl (kn0 ?_)
          refine wl_nil ?_
          refine ce_then ?_
          refine cw_region ?_
          refine wl_v (ov_move rfl) rfl rfl rfl ?_
          refine wl_v (ov_move rfl) rfl rfl rfl ?_
          refine wl_v (ov_indexg sI38 tI3 rfl rfl (some_holds (q := ((xs.getD k 0).toNat) * 1) (holds_row (List.Mem.head _)) (by rw [cells_length fI_len]; have hlt : (xs.getD k 0).toNat < ((leftR (xs.length + 2) (goneTo (xs.length + 2) xs k) (xs.drop k)).set lf (((leftR (xs.length + 2) (goneTo (xs.length + 2) xs k) (xs.drop k)).getD lf 0) - 1)).length := (by first | omega | (rw [List.length_set]; omega)); omega)) (by first | omega | (rw [List.length_set]; omega)) (show (xs.getD k 0).toNat < xs.length + 2 from (by first | omega | (rw [List.length_set]; omega)))) rfl rfl rfl ?_
          refine wl_v (ov_load tI3 (holds_row (List.Mem.head _)) rfl (get_fI (show (xs.getD k 0).toNat < ((leftR (xs.length + 2) (goneTo (xs.length + 2) xs k) (xs.drop k)).set lf (((leftR (xs.length + 2) (goneTo (xs.length + 2) xs k) (xs.drop k)).getD lf 0) - 1)).length from (by first | omega | (rw [List.length_set]; omega))))) rfl rfl rfl ?_
          have hb3 : -1000 ≤ (((leftR (xs.length + 2) (goneTo (xs.length + 2) xs k) (xs.drop k)).set lf (((leftR (xs.length + 2) (goneTo (xs.length + 2) xs k) (xs.drop k)).getD lf 0) - 1)).getD ((xs.getD k 0).toNat) 0) ∧ (((leftR (xs.length + 2) (goneTo (xs.length + 2) xs k) (xs.drop k)).set lf (((leftR (xs.length + 2) (goneTo (xs.length + 2) xs k) (xs.drop k)).getD lf 0) - 1)).getD ((xs.getD k 0).toNat) 0) ≤ 1000 := by
            rw [getD_setI (by omega)]; split <;> omega
          refine wl_v (ov_sub (r := (((leftR (xs.length + 2) (goneTo (xs.length + 2) xs k) (xs.drop k)).set lf (((leftR (xs.length + 2) (goneTo (xs.length + 2) xs k) (xs.drop k)).getD lf 0) - 1)).getD ((xs.getD k 0).toNat) 0) - 1) rfl rfl rfl (by omega)) rfl rfl rfl ?_
          refine wl_v (ov_indexg sI38 tI3 rfl rfl (some_holds (q := ((xs.getD k 0).toNat) * 1) (holds_row (List.Mem.head _)) (by rw [cells_length fI_len]; have hlt : (xs.getD k 0).toNat < ((leftR (xs.length + 2) (goneTo (xs.length + 2) xs k) (xs.drop k)).set lf (((leftR (xs.length + 2) (goneTo (xs.length + 2) xs k) (xs.drop k)).getD lf 0) - 1)).length := (by first | omega | (rw [List.length_set]; omega)); omega)) (by first | omega | (rw [List.length_set]; omega)) (show (xs.getD k 0).toNat < xs.length + 2 from (by first | omega | (rw [List.length_set]; omega)))) rfl rfl rfl ?_
          refine wl_r0 (or_store_row (vs := [.int .i64 ((((leftR (xs.length + 2) (goneTo (xs.length + 2) xs k) (xs.drop k)).set lf (((leftR (xs.length + 2) (goneTo (xs.length + 2) xs k) (xs.drop k)).getD lf 0) - 1)).getD ((xs.getD k 0).toNat) 0) - 1)]) (cs' := cells fI (((leftR (xs.length + 2) (goneTo (xs.length + 2) xs k) (xs.drop k)).set lf (((leftR (xs.length + 2) (goneTo (xs.length + 2) xs k) (xs.drop k)).getD lf 0) - 1)).set ((xs.getD k 0).toNat) ((((leftR (xs.length + 2) (goneTo (xs.length + 2) xs k) (xs.drop k)).set lf (((leftR (xs.length + 2) (goneTo (xs.length + 2) xs k) (xs.drop k)).getD lf 0) - 1)).getD ((xs.getD k 0).toNat) 0) - 1))) (.head) tI3 rfl rfl rfl rfl (by rw [cells_length fI_len]; have hlt := (show (xs.getD k 0).toNat < ((leftR (xs.length + 2) (goneTo (xs.length + 2) xs k) (xs.drop k)).set lf (((leftR (xs.length + 2) (goneTo (xs.length + 2) xs k) (xs.drop k)).getD lf 0) - 1)).length from (by first | omega | (rw [List.length_set]; omega))); simp only [List.length_cons, List.length_nil]; omega) (by simp) (cells_splice fI_len (show (xs.getD k 0).toNat < ((leftR (xs.length + 2) (goneTo (xs.length + 2) xs k) (xs.drop k)).set lf (((leftR (xs.length + 2) (goneTo (xs.length + 2) xs k) (xs.drop k)).getD lf 0) - 1)).length from (by first | omega | (rw [List.length_set]; omega))) ((((leftR (xs.length + 2) (goneTo (xs.length + 2) xs k) (xs.drop k)).set lf (((leftR (xs.length + 2) (goneTo (xs.length + 2) xs k) (xs.drop k)).getD lf 0) - 1)).getD ((xs.getD k 0).toNat) 0) - 1))) rfl rfl (kn0 ?_)
          refine wl_nil ?_
          refine ce_block ?_
          refine ce_then ?_
          refine cw_region ?_
          refine wl_v (ov_add (r := ((k + 1 : Nat) : Int)) rfl rfl rfl (by omega)) rfl rfl rfl ?_
          refine wl_v (ov_move rfl) rfl rfl rfl ?_
          refine wl_nil ?_
          exact fun ac_ w_ hs_ => hR1 (k + 1) A54 c54 ⟨by omega, h54⟩ (by omega) ac_ w_ (hs_.weaken (.cons rfl (.cons rfl (.cons rfl (.cons rfl (.cons rfl (.cons rfl (.cons rfl (.cons rfl (.nil))))))))) (.consE (show row 65 2 A54 (k + 1) (c54) (cells fE ((edgTo (xs.length + 2) xs k) ++ ([(min ((lf : Nat) : Int) (xs.getD k 0), max ((lf : Nat) : Int) (xs.getD k 0))]))) = row 65 2 A54 ((k + 1)) (c54) (cells fE (edgTo (xs.length + 2) xs (k + 1))) by rw [edgTo_succ hle] <;> rfl) (.tail .head) (.consE (show row 3 1 (some ⟨g27, 0, none⟩) (xs.length + 2) (xs.length + 2) (cells fI (((leftR (xs.length + 2) (goneTo (xs.length + 2) xs k) (xs.drop k)).set lf (((leftR (xs.length + 2) (goneTo (xs.length + 2) xs k) (xs.drop k)).getD lf 0) - 1)).set ((xs.getD k 0).toNat) ((((leftR (xs.length + 2) (goneTo (xs.length + 2) xs k) (xs.drop k)).set lf (((leftR (xs.length + 2) (goneTo (xs.length + 2) xs k) (xs.drop k)).getD lf 0) - 1)).getD ((xs.getD k 0).toNat) 0) - 1))) = row 3 1 (some ⟨g27, 0, none⟩) (xs.length + 2) (xs.length + 2) (cells fI (leftR (xs.length + 2) (goneTo (xs.length + 2) xs (k + 1)) (xs.drop (k + 1)))) by rw [← left_down hc (k := k) (by omega) _ rfl, hle, Int.toNat_natCast]) (.head) (.cons (.tail .head) (.nil)))))
        ·
          have hkk : k = xs.length := by omega
          obtain ⟨a, b, hab, hab1, hab2⟩ := last_okN hc
          have hfa : idxF (fun x => decide (x = 1)) (leftR (xs.length + 2) (goneTo (xs.length + 2) xs k) (xs.drop k)) = ((a : Nat) : Int) := by rw [hkk, List.drop_length]; exact hab.fa
          have hfb : idxF (fun x => decide (x = 1)) ((leftR (xs.length + 2) (goneTo (xs.length + 2) xs k) (xs.drop k)).drop (a + 1)) = ((b : Nat) : Int) - ((a : Nat) : Int) - 1 := by rw [hkk, List.drop_length]; have h9 := hab.fb; rwa [show (((a : Nat) : Int) + 1).toNat = a + 1 from by omega] at h9
          have hres : srtE (edgTo (xs.length + 2) xs k ++ [(((a : Nat) : Int), ((b : Nat) : Int))]) = treeT (xs.length + 2) xs := by unfold treeT; rw [last_edge hab, hkk]
          have hok9 : ∀ e ∈ edgTo (xs.length + 2) xs k ++ [(((a : Nat) : Int), ((b : Nat) : Int))], 0 ≤ e.1 ∧ e.1 ≤ 1000 ∧ 0 ≤ e.2 ∧ e.2 ≤ 1000 := fun e he => by
            rcases List.mem_append.1 he with h | h
            · have := edgTo_bd hc k (by omega) e h
              omega
            · rw [List.mem_singleton] at h; subst h; dsimp only; omega
          refine wl_nil ?_
          refine ce_then ?_
          refine cw_seq ?_
          refine cw_false rfl ?_
          refine cw_exit ?_
          refine ce_then_exit ?_
          refine ce_then_exit ?_
          refine ce_hit ?_
          refine ce_then ?_
          refine cw_seq ?_
          refine cw_region ?_
          refine wl_v (ov_move rfl) rfl rfl rfl ?_
          refine wl_r (or_call (fv := []) (vs := [.slice (some ⟨g27, 0, none⟩) (xs.length + 2) (xs.length + 2), .int .i64 (1)]) (cs := []) en50 rfl rfl (call_v (fun w hw => indexI_c w (some ⟨g27, 0, none⟩) (xs.length + 2) (xs.length + 2) (leftR (xs.length + 2) (goneTo (xs.length + 2) xs k) (xs.drop k)) 1 ((holds_row (List.Mem.tail _ (List.Mem.head _))) w hw) (by omega) (Nat.le_refl _) (by omega)))) rfl rfl (kt0 rfl ?_)
          refine ct_keep (L' := [(2, elp (some ⟨g2, 0, none⟩) (0)), (3, .bool false), (4, .int .i64 (((xs.length + 2 : Nat) : Int))), (5, .slice (some ⟨g27, 0, none⟩) (xs.length + 2) (xs.length + 2)), (7, .slice A7 (k) (c7)), (41, .slice A (xs.length) (c)), (42, .int .i64 (((xs.length : Nat) : Int))), (43, .int .i64 (((k : Nat) : Int))), (44, .bool false), (68, .slice (some ⟨g27, 0, none⟩) (xs.length + 2) (xs.length + 2)), (69, .int .i64 (((a : Nat) : Int)))]) (.cons rfl (.cons rfl (.cons rfl (.cons rfl (.cons rfl (.cons rfl (.cons rfl (.cons rfl (.cons rfl (.cons rfl (.cons (congrArg (fun z => some (Value.int .i64 z)) (show (idxF (fun x => decide (x = 1)) (leftR (xs.length + 2) (goneTo (xs.length + 2) xs k) (xs.drop k))) = ((a : Nat) : Int) from hfa)) (.nil)))))))))))) .refl ?_
          refine wl_v (ov_assign rfl) rfl rfl rfl ?_
          refine wl_nil ?_
          refine ce_then ?_
          refine cw_seq ?_
          refine cw_region ?_
          refine wl_v (ov_move rfl) rfl rfl rfl ?_
          refine wl_v (ov_add (r := ((a + 1 : Nat) : Int)) rfl rfl rfl (by omega)) rfl rfl rfl ?_
          refine wl_v (ov_move rfl) rfl rfl rfl ?_
          refine wl_v (ov_move rfl) rfl rfl rfl ?_
          refine wl_v (ov_add (r := ((a + 1 : Nat) : Int)) rfl rfl rfl (by omega)) rfl rfl rfl ?_
          refine wl_v (ov_slice_l (l := a + 1) sI38 tI3 rfl rfl (by omega)) rfl rfl rfl ?_
          refine wl_r (or_call (fv := []) (vs := [.slice (dropA (some ⟨g27, 0, none⟩) (xs.length + 2) (a + 1) 1) ((xs.length + 2) - (a + 1)) ((xs.length + 2) - (a + 1)), .int .i64 (1)]) (cs := []) en50 rfl rfl (call_v (fun w hw => indexI_c w (dropA (some ⟨g27, 0, none⟩) (xs.length + 2) (a + 1) 1) ((xs.length + 2) - (a + 1)) ((xs.length + 2) - (a + 1)) ((leftR (xs.length + 2) (goneTo (xs.length + 2) xs k) (xs.drop k)).drop (a + 1)) 1 ((holds_dropC (l := (a + 1)) fI_len (holds_row (List.Mem.tail _ (List.Mem.head _))) (by first | exact (Nat.le_refl _) | omega)) w hw) (by rw [List.length_drop]; omega) (by omega) (by rw [List.length_drop]; omega)))) rfl rfl (kt0 rfl ?_)
          refine ct_keep (L' := [(2, elp (some ⟨g2, 0, none⟩) (0)), (3, .bool false), (4, .int .i64 (((xs.length + 2 : Nat) : Int))), (5, .slice (some ⟨g27, 0, none⟩) (xs.length + 2) (xs.length + 2)), (7, .slice A7 (k) (c7)), (11, .int .i64 (((a : Nat) : Int))), (41, .slice A (xs.length) (c)), (42, .int .i64 (((xs.length : Nat) : Int))), (43, .int .i64 (((k : Nat) : Int))), (44, .bool false), (68, .slice (some ⟨g27, 0, none⟩) (xs.length + 2) (xs.length + 2)), (69, .int .i64 (((a : Nat) : Int))), (70, .int .i64 (((a : Nat) : Int))), (71, .int .i64 (((a + 1 : Nat) : Int))), (72, .slice (some ⟨g27, 0, none⟩) (xs.length + 2) (xs.length + 2)), (73, .int .i64 (((a : Nat) : Int))), (74, .int .i64 (((a + 1 : Nat) : Int))), (75, .slice (dropA (some ⟨g27, 0, none⟩) (xs.length + 2) (a + 1) 1) ((xs.length + 2) - (a + 1)) ((xs.length + 2) - (a + 1))), (76, .int .i64 (((b : Nat) : Int) - ((a : Nat) : Int) - 1))]) (.cons rfl (.cons rfl (.cons rfl (.cons rfl (.cons rfl (.cons rfl (.cons rfl (.cons rfl (.cons rfl (.cons rfl (.cons rfl (.cons rfl (.cons rfl (.cons rfl (.cons rfl (.cons rfl (.cons rfl (.cons rfl (.cons (congrArg (fun z => some (Value.int .i64 z)) (show (idxF (fun x => decide (x = 1)) ((leftR (xs.length + 2) (goneTo (xs.length + 2) xs k) (xs.drop k)).drop (a + 1))) = (((b : Nat) : Int) - ((a : Nat) : Int) - 1) from hfb)) (.nil)))))))))))))))))))) .refl ?_
          refine wl_v (ov_add (r := ((b : Nat) : Int)) rfl rfl (by omega) (by omega)) rfl rfl rfl ?_
          refine wl_v (ov_assign rfl) rfl rfl rfl ?_
          refine wl_nil ?_
          refine ce_then ?_
          refine cw_seq ?_
          refine cw_region ?_
          refine wl_v (ov_move rfl) rfl rfl rfl ?_
          refine wl_v (ov_move rfl) rfl rfl rfl ?_
          refine wl_v (ov_move rfl) rfl rfl rfl ?_
          refine wl_v (ov_move rfl) rfl rfl rfl ?_
          refine wl_v (ov_build (is := [0, 1]) (vs := [.int .i64 (((a : Nat) : Int)), .int .i64 (((b : Nat) : Int))]) (v := .agg #[.int .i64 (((a : Nat) : Int)), .int .i64 (((b : Nat) : Int))]) rfl rfl (fun _ => by kernel_rfl)) rfl rfl rfl ?_
          refine wl_r (or_buildSlice (e := 65) (size := 2) (is := [0]) (vs := [.agg #[.int .i64 (((a : Nat) : Int)), .int .i64 (((b : Nat) : Int))]]) (cs := cells fE ([(((a : Nat) : Int), ((b : Nat) : Int))])) rfl rfl rfl (by decide) (fun _ => by kernel_rfl)) rfl rfl (kt1 rfl (fun g83 => ?_))
          refine wl_r (or_append (c2 := 1) sI23 tI65 rfl (by decide) rfl rfl (.tail .head) (holds_row (List.Mem.head _)) (by rw [cells_length fE_len]; try simp) (one_cells fE_one _) cells_append (by omega) (by omega)) rfl rfl (kt2p rfl (fun A84 c84 h84 => ?_))
          refine wl_r (or_call (fv := []) (vs := [.int .i64 (((xs.length + 2 : Nat) : Int)), .slice A84 (k + 1) (c84)]) (cs := []) en62 rfl rfl (call_x3 (fun w hw => made_c w ((xs.length + 2 : Nat) : Int) A84 (k + 1) c84 ((edgTo (xs.length + 2) xs k) ++ ([(((a : Nat) : Int), ((b : Nat) : Int))])) ((holds_row (List.Mem.head _)) w hw) (by rw [List.length_append, edgTo_length]; rfl) h84 (by rw [List.length_append, edgTo_length]; show k + 1 ≤ 1000; omega) hok9))) rfl rfl (kt3p rfl (fun A2_85 k2_85 c2_85 h_85 => ?_))
          refine wl_r0 (or_store_blk (vs := [.int .i64 (((xs.length + 2 : Nat) : Int)), .slice A2_85 ((srtE ((edgTo (xs.length + 2) xs k) ++ ([(((a : Nat) : Int), ((b : Nat) : Int))]))).length) (k2_85)]) (cs' := [.int .i64 (((xs.length + 2 : Nat) : Int)), .slice A2_85 ((srtE ((edgTo (xs.length + 2) xs k) ++ ([(((a : Nat) : Int), ((b : Nat) : Int))]))).length) (k2_85)]) (.tail (.tail (.tail (.tail .head)))) tI25 rfl rfl rfl rfl (Nat.le_of_ble_eq_true rfl) rfl) rfl rfl (kn0 ?_)
          refine wl_v (ov_assign rfl) rfl rfl rfl ?_
          refine wl_nil ?_
          refine ce_then ?_
          refine cw_ret ?_
          refine ce_results (v := .tuple #[.agg #[.int .i64 (((xs.length + 2 : Nat) : Int)), .slice A2_85 ((srtE ((edgTo (xs.length + 2) xs k) ++ ([(((a : Nat) : Int), ((b : Nat) : Int))]))).length) (k2_85)], .bool true]) (res2 rfl (rv_c rfl tI25 rfl (List.Mem.head _)) (rv_t rfl)) (fun w' hw => ?_)
          exact ⟨A2_85, k2_85, c2_85, (by rw [hv]; show (treeT (xs.length + 2) xs).length ≤ _; rw [← hres]; exact h_85), (by rw [hv, ← hres]), ((.consE (show row 65 2 A2_85 ((srtE ((edgTo (xs.length + 2) xs k) ++ ([(((a : Nat) : Int), ((b : Nat) : Int))]))).length) (c2_85) (cells fE (srtE ((edgTo (xs.length + 2) xs k) ++ ([(((a : Nat) : Int), ((b : Nat) : Int))])))) = row 65 2 A2_85 ((tocV xs).2.1.length) (c2_85) (cells fE ((tocV xs).2.1)) by rw [hv, ← hres]) (.tail .head) (.nil) : Keep _ _).ss hw).to_new⟩
    ·
      refine wl_go rfl rfl ?_
      refine wl_v (ov_not rfl) rfl rfl rfl ?_
      refine wl_v (ov_pick_f rfl rfl) rfl rfl rfl ?_
      refine wl_nil ?_
      refine ce_then ?_
      refine cw_true rfl ?_
      refine cw_seq ?_
      have hv : tocV xs = (0, [], false) := if_neg (fun h => c22 (fun x hx => by have := h.1 x hx; omega))
      refine ct_none fE 65 2 ?_
      refine cw_region ?_
      refine wl_v (ov_build (is := []) (vs := []) (v := .agg #[.int .i64 (0), .slice none (0) (0)]) rfl rfl (fun _ => by kernel_rfl)) rfl rfl rfl ?_
      refine wl_r0 (or_store_blk (vs := [.int .i64 (0), .slice none (0) (0)]) (cs' := [.int .i64 (0), .slice none (0) (0)]) (.tail .head) tI25 rfl rfl rfl rfl (Nat.le_of_ble_eq_true rfl) rfl) rfl rfl (kn0 ?_)
      refine wl_v (ov_assign rfl) rfl rfl rfl ?_
      refine wl_nil ?_
      refine ce_then ?_
      refine cw_ret ?_
      refine ce_then_ret ?_
      refine ce_results (v := .tuple #[.agg #[.int .i64 (0), .slice none (0) (0)], .bool false]) (res2 rfl (rv_c rfl tI25 rfl (List.Mem.head _)) (rv_t rfl)) (fun w' hw => ?_)
      exact ⟨none, 0, 0, (by rw [hv]; exact Nat.le_refl _), (by rw [hv] <;> rfl), ((.consE (show row 65 2 none (0) (0) (cells fE ([])) = row 65 2 none ((tocV xs).2.1.length) (0) (cells fE ((tocV xs).2.1)) by rw [hv] <;> rfl) (.tail .head) (.nil) : Keep _ _).ss hw).to_new⟩
end Go.Proofs.Ytkkllkkjdbpjpaa.W46
