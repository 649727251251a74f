/- Walks of functions of the given program: each returns what its Lean function says and leaves the memory that was there as it was. Conditions: those of each theorem. -/
import Derived.Test.YtkkllkkjdbpjpaaSm
import Derived.Test.YtkkllkkjdbpjpaaProg
import Derived.Test.YtkkllkkjdbpjpaaPl
import Derived.Test.YtkkllkkjdbpjpaaPo
import Derived.Test.YtkkllkkjdbpjpaaPd
import Derived.Test.YtkkllkkjdbpjpaaPe
import Derived.Test.YtkkllkkjdbpjpaaPh
import Derived.Test.YtkkllkkjdbpjpaaPm
import Derived.Test.YtkkllkkjdbpjpaaPc
import Derived.Test.YtkkllkkjdbpjpaaPs
import Derived.Test.YtkkllkkjdbpjpaaPt
import Derived.Test.YtkkllkkjdbpjpaaPu
import Derived.Test.YtkkllkkjdbpjpaaPv
import Derived.Test.YtkkllkkjdbpjpaaPw
import Derived.Test.YtkkllkkjdbpjpaaPx
import Derived.Test.YtkkllkkjdbpjpaaPy
import Derived.Test.YtkkllkkjdbpjpaaPz
import Derived.Test.YtkkllkkjdbpjpaaPr
import Derived.Test.YtkkllkkjdbpjpaaPa
import Derived.Test.YtkkllkkjdbpjpaaPn
import Derived.Test.YtkkllkkjdbpjpaaPj
import Derived.Test.YtkkllkkjdbpjpaaPq
import Derived.Test.YtkkllkkjdbpjpaaSp
import Derived.Test.YtkkllkkjdbpjpaaPp
import Derived.Test.YtkkllkkjdbpjpaaSs
import Derived.Test.YtkkllkkjdbpjpaaSr
import Derived.Test.YtkkllkkjdbpjpaaPb
import Derived.Test.YtkkllkkjdbpjpaaSe
import Derived.Test.YtkkllkkjdbpjpaaSf
import Derived.Test.YtkkllkkjdbpjpaaT
import Derived.Test.YtkkllkkjdbpjpaaW5
import Derived.Test.YtkkllkkjdbpjpaaW11
import Derived.Test.YtkkllkkjdbpjpaaW23
import Derived.Test.YtkkllkkjdbpjpaaW24
import Derived.KernelRfl
namespace Go.Proofs.Ytkkllkkjdbpjpaa.W48
open Go.Sx Go.RowKit Go.Proofs.Ytkkllkkjdbpjpaa.T Go.Proofs.Ytkkllkkjdbpjpaa.W5 Go.Proofs.Ytkkllkkjdbpjpaa.W11 Go.Proofs.Ytkkllkkjdbpjpaa.W23 Go.Proofs.Ytkkllkkjdbpjpaa.W24
open Go.Plain
set_option linter.unusedVariables false
set_option maxRecDepth 100000 in
theorem equalJoints_c (w : World) (A : Option Addr) (n : Nat) (c : Nat) (xs : List (Int × Int × Int)) (A2 : Option Addr) (n2 : Nat) (c2 : Nat) (ys : List (Int × Int × Int)) (hA : At w A (cells fJ xs)) (eA : xs.length = n) (lA : n ≤ c) (hA2 : At w A2 (cells fJ ys)) (eA2 : ys.length = n2) (lA2 : n2 ≤ c2) (hs : xs.length ≤ 1048576) : Calls Try.prog 10 #[.slice A (n) (c), .slice A2 (n2) (c2)] w (Ret fun rv w' => rv = .bool (decide (xs = ys)) ∧ New w w' []) := by
  have oA := hA.atB
  subst eA
  have oA2 := hA2.atB
  subst eA2
  refine fn_enter (args := [.slice A (xs.length) (c), .slice A2 (ys.length) (c2)]) Try.func10 rfl Try.ntmps10 rfl (SS.start w) ?_
  refine cw_seq ?_
  refine cw_region ?_
  refine wl_v (ov_assign rfl) rfl rfl rfl ?_
  refine wl_nil ?_
  refine ce_then ?_
  refine cw_seq ?_
  refine cw_seq ?_
  refine cw_region ?_
  refine wl_v (ov_move rfl) rfl rfl rfl ?_
  refine wl_v (ov_len (sliceI_spec sI27) rfl) rfl rfl rfl ?_
  refine wl_v (ov_move rfl) rfl rfl rfl ?_
  refine wl_v (ov_len (sliceI_spec sI27) rfl) rfl rfl rfl ?_
  refine wl_if (ov_neq rfl rfl) rfl rfl rfl (fun c10 => ?_) (fun c10 => ?_)
  ·
    refine wl_nil ?_
    refine ce_then ?_
    refine cw_true rfl ?_
    refine cw_seq ?_
    refine cw_region ?_
    refine wl_v (ov_assign rfl) rfl rfl rfl ?_
    refine wl_nil ?_
    refine ce_then ?_
    refine cw_ret ?_
    refine ce_then_ret ?_
    refine ce_results (v := .bool false) (res1 rfl (rv_t rfl)) (fun w' hw => ?_)
    exact ⟨(bf (fun h => c10 (by rw [h]))), (Keep.nil.ss hw).to_new⟩
  ·
    refine wl_nil ?_
    refine ce_then ?_
    refine cw_false rfl ?_
    refine cw_skip ?_
    refine ce_then ?_
    refine cw_seq ?_
    refine cw_seq ?_
    refine cw_region ?_
    refine wl_v (ov_assign rfl) rfl rfl rfl ?_
    refine wl_nil ?_
    refine ce_then ?_
    refine cw_block ?_
    refine cw_loop1 (fun (k : Nat) => [(0, .slice A (xs.length) (c)), (1, .slice A2 (ys.length) (c2)), (5, .int .i64 (((k : Nat) : Int)))]) (fun (k : Nat) => []) (fun (k : Nat) => k ≤ xs.length ∧ xs.take k = ys.take k) (fun (k : Nat) => xs.length - k) 0 ⟨by omega, rfl⟩ (.cons rfl (.cons rfl (.cons (congrArg (fun z => some (Value.int .i64 z)) (show 0 = ((0 : Nat) : Int) by first | omega | rfl | (simp; done))) (.nil)))) (.nil) ?_
    intro R0 k hk hR0
    obtain ⟨hk1, hk2⟩ := hk
    refine cw_seq ?_
    refine cw_seq ?_
    refine cw_region ?_
    refine wl_v (ov_move rfl) rfl rfl rfl ?_
    refine wl_v (ov_move rfl) rfl rfl rfl ?_
    refine wl_v (ov_len (sliceI_spec sI27) rfl) rfl rfl rfl ?_
    refine wl_if (ov_lss rfl rfl) rfl rfl rfl (fun c14 => ?_) (fun c14 => ?_)
    ·
      refine wl_nil ?_
      refine ce_then ?_
      refine cw_true rfl ?_
      refine cw_skip ?_
      refine ce_then ?_
      refine cw_seq ?_
      refine cw_block ?_
      refine cw_seq ?_
      refine cw_draw mixO [] (.nil) rfl ?_
      refine wg_takep (i := 0) rfl (ov_move rfl) rfl rfl rfl (by kernel_rfl) (by kernel_rfl) (by kernel_rfl) rfl ?_
      refine wg_takep (i := 1) rfl (ov_move rfl) rfl rfl rfl (by kernel_rfl) (by kernel_rfl) (by kernel_rfl) rfl ?_
      refine wg_take (i := 2) rfl (ov_index (k := k) (c := c) sI27 tI32 rfl rfl (some_holds (q := k * 3) (holds_old oA) (by rw [cells_length fJ_len]; have hlt : k < xs.length := (by first | omega | (simp; omega)); omega)) (show k < xs.length from (by first | omega | (simp; omega)))) rfl rfl rfl (by kernel_rfl) (by kernel_rfl) (by kernel_rfl) (by kernel_rfl) ?_
      refine wg_take (i := 3) rfl (ov_loadAgg (vs := [.int .i64 ((xs.getD k (0, 0, 0)).1), .int .i64 ((xs.getD k (0, 0, 0)).2.1), .int .i64 ((xs.getD k (0, 0, 0)).2.2)]) tI32 (holds_old oA) rfl (some_holds (q := k * 3) (holds_old oA) (by rw [cells_length fJ_len]; have hlt : k < xs.length := (by first | omega | (simp; omega)); omega)) (cells_elem fJ_len (0, 0, 0) (show k < xs.length from (by first | omega | (simp; omega)))) rfl) rfl rfl rfl (by kernel_rfl) (by kernel_rfl) (by kernel_rfl) (by kernel_rfl) ?_
      refine wg_takep (i := 4) rfl (ov_move rfl) rfl rfl rfl (by kernel_rfl) (by kernel_rfl) (by kernel_rfl) rfl ?_
      refine wg_takep (i := 5) rfl (ov_move rfl) rfl rfl rfl (by kernel_rfl) (by kernel_rfl) (by kernel_rfl) rfl ?_
      refine wg_take (i := 6) rfl (ov_index (k := k) (c := c2) sI27 tI32 rfl rfl (some_holds (q := k * 3) (holds_old oA2) (by rw [cells_length fJ_len]; have hlt : k < ys.length := (by first | omega | (simp; omega)); omega)) (show k < ys.length from (by first | omega | (simp; omega)))) rfl rfl rfl (by kernel_rfl) (by kernel_rfl) (by kernel_rfl) (by kernel_rfl) ?_
      refine wg_take (i := 7) rfl (ov_loadAgg (vs := [.int .i64 ((ys.getD k (0, 0, 0)).1), .int .i64 ((ys.getD k (0, 0, 0)).2.1), .int .i64 ((ys.getD k (0, 0, 0)).2.2)]) tI32 (holds_old oA2) rfl (some_holds (q := k * 3) (holds_old oA2) (by rw [cells_length fJ_len]; have hlt : k < ys.length := (by first | omega | (simp; omega)); omega)) (cells_elem fJ_len (0, 0, 0) (show k < ys.length from (by first | omega | (simp; omega)))) rfl) rfl rfl rfl (by kernel_rfl) (by kernel_rfl) (by kernel_rfl) (by kernel_rfl) ?_
      refine wg_takep_if (i := 8) rfl (ov_neqE3 eqE32 rfl rfl) rfl rfl rfl (by kernel_rfl) (by kernel_rfl) (by kernel_rfl) rfl (fun c25 => ?_) (fun c25 => ?_)
      ·
        refine wg_done (by kernel_rfl) ?_
        refine ce_then ?_
        refine cw_true rfl ?_
        refine cw_seq ?_
        refine cw_region ?_
        refine wl_v (ov_assign rfl) rfl rfl rfl ?_
        refine wl_nil ?_
        refine ce_then ?_
        refine cw_ret ?_
        refine ce_block_ret ?_
        refine ce_then_ret ?_
        refine ce_then_ret ?_
        refine ce_block_ret ?_
        refine ce_then_ret ?_
        refine ce_results (v := .bool false) (res1 rfl (rv_t rfl)) (fun w' hw => ?_)
        exact ⟨(bf (fun h => c25 (by rw [h]; exact ⟨rfl, rfl, rfl⟩))), (Keep.nil.ss hw).to_new⟩
      ·
        refine wg_done (by kernel_rfl) ?_
        refine ce_then ?_
        refine cw_false rfl ?_
        refine cw_skip ?_
        refine ce_block ?_
        refine ce_then ?_
        refine cw_region ?_
        refine wl_v (ov_move rfl) rfl rfl rfl ?_
        refine wl_v (ov_add (r := ((k + 1 : Nat) : Int)) rfl rfl rfl (by omega)) rfl rfl rfl ?_
        refine wl_v (ov_assign rfl) rfl rfl rfl ?_
        refine wl_nil ?_
        exact fun ac_ w_ hs_ => hR0 (k + 1) ⟨by omega, take_eq_step (0, 0, 0) (by omega) (by omega) hk2 (Prod.ext (by omega) (Prod.ext (by omega) (by omega)))⟩ (by omega) ac_ w_ (hs_.weaken (.cons rfl (.cons rfl (.cons rfl (.nil)))) (.nil))
    ·
      refine wl_nil ?_
      refine ce_then ?_
      refine cw_false rfl ?_
      refine cw_exit ?_
      refine ce_then_exit ?_
      refine ce_then_exit ?_
      refine ce_hit ?_
      refine ce_then ?_
      refine cw_seq ?_
      refine cw_region ?_
      refine wl_v (ov_assign rfl) rfl rfl rfl ?_
      refine wl_nil ?_
      refine ce_then ?_
      refine cw_ret ?_
      refine ce_results (v := .bool true) (res1 rfl (rv_t rfl)) (fun w' hw => ?_)
      exact ⟨(bt (by rwa [List.take_of_length_le (by omega), List.take_of_length_le (by omega)] at hk2)), (Keep.nil.ss hw).to_new⟩
set_option maxRecDepth 100000 in
theorem clipJ_c (w : World) (A : Option Addr) (n : Nat) (c : Nat) (xs : List (Int × Int × Int)) (hA : At w A (cells fJ xs)) (eA : xs.length = n) (lA : n ≤ c) : Calls Try.prog 39 #[.slice A (n) (c)] w (Ret fun rv w' => rv = .slice A (n) (n) ∧ New w w' []) := by
  have oA := hA.atB
  subst eA
  refine fn_enter (args := [.slice A (xs.length) (c)]) Try.func39 rfl Try.ntmps39 rfl (SS.start w) ?_
  refine cw_seq ?_
  refine cw_region ?_
  refine wl_v (ov_assign rfl) rfl rfl rfl ?_
  refine wl_nil ?_
  refine ce_then ?_
  refine cw_seq ?_
  refine cw_region ?_
  refine wl_v (ov_move rfl) rfl rfl rfl ?_
  refine wl_v (ov_move rfl) rfl rfl rfl ?_
  refine wl_v (ov_len (sliceI_spec sI27) rfl) rfl rfl rfl ?_
  refine wl_v (ov_move rfl) rfl rfl rfl ?_
  refine wl_v (ov_len (sliceI_spec sI27) rfl) rfl rfl rfl ?_
  refine wl_v (ov_slice_hm (h := xs.length) (mx := xs.length) sI27 tI32 rfl rfl rfl (Nat.le_refl _) lA) rfl rfl rfl ?_
  refine wl_v (ov_assign rfl) rfl rfl rfl ?_
  refine wl_nil ?_
  refine ce_then ?_
  refine cw_ret ?_
  refine ce_results (v := .slice A (xs.length) (xs.length)) (res1 rfl (rv_t rfl)) (fun w' hw => ?_)
  exact ⟨rfl, (Keep.nil.ss hw).to_new⟩
set_option maxRecDepth 100000 in
theorem sortJ_c (w w0 : World) (Bd : Nat) (F : List Ent) (A : Option Addr) (n : Nat) (c : Nat) (cv : Nat) (xs : List (Int × Int × Int)) (hs : n ≤ 1000000) (eA : xs.length = n) (hss : SS w0 Bd ((row 32 3 A (n) (c) (cells fJ xs)) :: F) w) : Calls Try.prog 35 #[.slice A (n) (cv), .func (.func 36) #[] #[]] w (Ret fun rv w' => ∃ ys, (SrtJ xs ys ∧ ys.length = n) ∧ rv = .tuple #[] ∧ SS w0 Bd ((row 32 3 A (n) (c) (cells fJ ys)) :: F) w') :=
  Go.Sx.sortV_row Sf.sortJC fJ_len w w0 Bd F 32 A n c cv xs eA trivial (by omega) (by decide) hss
set_option maxRecDepth 100000 in
theorem jointCount_c (w : World) (m : Nat) (A : Option Addr) (n : Nat) (c : Nat) (es : List (Int × Int)) (A1 : Option Addr) (n1 : Nat) (c1 : Nat) (d : List (Int)) (a : Int) (b : Int) (hA : At w A (cells fE es)) (eA : es.length = n) (lA : n ≤ c) (hA1 : At w A1 (cells fI d)) (eA1 : d.length = n1) (lA1 : n1 ≤ c1) (hs : es.length ≤ 1000) (hd : n1 = m) (he : ∀ e ∈ es, 0 ≤ e.1 ∧ e.1 < e.2 ∧ e.2 < (m : Int)) : Calls Try.prog 84 #[.agg #[.int .i64 (((m : Nat) : Int)), .slice A (n) (c)], .slice A1 (n1) (c1), .int .i64 (a), .int .i64 (b)] w (Ret fun rv w' => rv = .int .i64 (((cntE d es a b : Nat) : Int)) ∧ New w w' []) := by
  have oA := hA.atB
  subst eA
  have oA1 := hA1.atB
  subst eA1
  refine fn_enter (args := [.agg #[.int .i64 (((m : Nat) : Int)), .slice A (es.length) (c)], .slice A1 (d.length) (c1), .int .i64 (a), .int .i64 (b)]) Try.func84 rfl Try.ntmps84 rfl (SS.start w) ?_
  refine cw_seq ?_
  refine cw_region ?_
  refine wl_r (or_box rfl rfl) rfl rfl (kt1 rfl (fun g4 => ?_))
  refine wl_v (ov_assign rfl) rfl rfl rfl ?_
  refine wl_nil ?_
  refine ce_then ?_
  refine cw_seq ?_
  refine cw_region ?_
  refine wl_v (ov_assign rfl) rfl rfl rfl ?_
  refine wl_nil ?_
  refine ce_then ?_
  refine cw_seq ?_
  refine cw_seq ?_
  refine cw_region ?_
  refine wl_v (ov_assign rfl) rfl rfl rfl ?_
  refine wl_nil ?_
  refine ce_then ?_
  refine cw_block ?_
  refine cw_loop1 (fun (k : Nat) => [(1, .slice A1 (d.length) (c1)), (2, .int .i64 (a)), (3, .int .i64 (b)), (4, elp (some ⟨g4, 0, none⟩) (0)), (8, .int .i64 (0)), (9, .int .i64 (((cntE d (es.take k) a b : Nat) : Int))), (10, .int .i64 (((k : Nat) : Int)))]) (fun (k : Nat) => [blk g4 [.int .i64 (((m : Nat) : Int)), .slice A (es.length) (c)] 25]) (fun (k : Nat) => k ≤ es.length) (fun (k : Nat) => es.length - k) 0 (by omega) (.cons rfl (.cons rfl (.cons rfl (.cons rfl (.cons rfl (.cons (congrArg (fun z => some (Value.int .i64 z)) (show 0 = ((cntE d (es.take 0) a b : Nat) : Int) from rfl)) (.cons (congrArg (fun z => some (Value.int .i64 z)) (show 0 = ((0 : Nat) : Int) by first | omega | rfl | (simp; done))) (.nil)))))))) (.cons (.head) (.nil)) ?_
  intro R0 k hk hR0
  have hcl := cntE_le d (es.take k) a b
  rw [List.length_take] at hcl
  refine cw_seq ?_
  refine cw_seq ?_
  refine cw_region ?_
  refine wl_v (ov_move rfl) rfl rfl rfl ?_
  refine wl_v (ov_fieldAddr fI25_1 some_lit rfl) rfl rfl rfl ?_
  refine wl_v (ov_load tI23 (holds_blk (List.Mem.head _)) rfl rfl) rfl rfl rfl ?_
  refine wl_v (ov_len (sliceI_spec sI23) rfl) rfl rfl rfl ?_
  refine wl_if (ov_lss rfl rfl) rfl rfl rfl (fun c17 => ?_) (fun c17 => ?_)
  ·
    refine wl_nil ?_
    refine ce_then ?_
    refine cw_true rfl ?_
    refine cw_skip ?_
    refine ce_then ?_
    refine cw_seq ?_
    refine cw_block ?_
    refine cw_seq ?_
    refine cw_region ?_
    refine wl_v (ov_move rfl) rfl rfl rfl ?_
    have hek := he _ (getD_mem (xs := es) (k := k) (0, 0) (by omega))
    refine wl_v (ov_fieldAddr fI25_1 some_lit rfl) rfl rfl rfl ?_
    refine wl_v (ov_load tI23 (holds_blk (List.Mem.head _)) rfl rfl) rfl rfl rfl ?_
    refine wl_v (ov_move rfl) rfl rfl rfl ?_
    refine wl_v (ov_index (k := k) (c := c) sI23 tI65 rfl rfl (some_holds (q := k * 2) (holds_old oA) (by rw [cells_length fE_len]; have hlt : k < es.length := (by omega); omega)) (show k < es.length from (by omega))) rfl rfl rfl ?_
    refine wl_v (ov_fieldAddr fI65_0 (some_holds (q := k * 2) (holds_old oA) (by rw [cells_length fE_len]; have hlt : k < es.length := (by omega); omega)) rfl) rfl rfl rfl ?_
    refine wl_v (ov_load tI3 (holds_old oA) rfl (get_fE0 (show k < es.length from (by omega)))) rfl rfl rfl ?_
    refine wl_v (ov_indexg sI38 tI3 rfl rfl (some_holds (q := (((es.getD k (0, 0)).1).toNat) * 1) (holds_old oA1) (by rw [cells_length fI_len]; have hlt : ((es.getD k (0, 0)).1).toNat < d.length := (by omega); omega)) (by omega) (show ((es.getD k (0, 0)).1).toNat < d.length from (by omega))) rfl rfl rfl ?_
    refine wl_v (ov_load tI3 (holds_old oA1) rfl (get_fI (show ((es.getD k (0, 0)).1).toNat < d.length from (by omega)))) rfl rfl rfl ?_
    refine wl_v (ov_assign rfl) rfl rfl rfl ?_
    refine wl_nil ?_
    refine ce_then ?_
    refine cw_seq ?_
    refine cw_region ?_
    refine wl_v (ov_move rfl) rfl rfl rfl ?_
    refine wl_v (ov_fieldAddr fI25_1 some_lit rfl) rfl rfl rfl ?_
    refine wl_v (ov_load tI23 (holds_blk (List.Mem.head _)) rfl rfl) rfl rfl rfl ?_
    refine wl_v (ov_move rfl) rfl rfl rfl ?_
    refine wl_v (ov_index (k := k) (c := c) sI23 tI65 rfl rfl (some_holds (q := k * 2) (holds_old oA) (by rw [cells_length fE_len]; have hlt : k < es.length := (by omega); omega)) (show k < es.length from (by omega))) rfl rfl rfl ?_
    refine wl_v (ov_fieldAddr fI65_1 (some_holds (q := k * 2) (holds_old oA) (by rw [cells_length fE_len]; have hlt : k < es.length := (by omega); omega)) rfl) rfl rfl rfl ?_
    refine wl_v (ov_load tI3 (holds_old oA) rfl (get_fE1 (show k < es.length from (by omega)))) rfl rfl rfl ?_
    refine wl_v (ov_indexg sI38 tI3 rfl rfl (some_holds (q := (((es.getD k (0, 0)).2).toNat) * 1) (holds_old oA1) (by rw [cells_length fI_len]; have hlt : ((es.getD k (0, 0)).2).toNat < d.length := (by omega); omega)) (by omega) (show ((es.getD k (0, 0)).2).toNat < d.length from (by omega))) rfl rfl rfl ?_
    refine wl_v (ov_load tI3 (holds_old oA1) rfl (get_fI (show ((es.getD k (0, 0)).2).toNat < d.length from (by omega)))) rfl rfl rfl ?_
    refine wl_v (ov_assign rfl) rfl rfl rfl ?_
    refine wl_nil ?_
    refine ce_then ?_
    refine cw_seq ?_
    refine cw_region ?_
    refine wl_v (ov_move rfl) rfl rfl rfl ?_
    refine wl_v (ov_move rfl) rfl rfl rfl ?_
    refine wl_v (ov_min (r := min (d.getD (((es.getD k (0, 0)).1).toNat) 0) (d.getD (((es.getD k (0, 0)).2).toNat) 0)) rfl rfl (by first | omega | (split <;> omega))) rfl rfl rfl ?_
    refine wl_v (ov_move rfl) rfl rfl rfl ?_
    refine wl_if (ov_eql rfl rfl) rfl rfl rfl (fun c42 => ?_) (fun c42 => ?_)
    ·
      refine wl_v (ov_move rfl) rfl rfl rfl ?_
      refine wl_go rfl rfl ?_
      refine wl_v (ov_move rfl) rfl rfl rfl ?_
      refine wl_go rfl rfl ?_
      refine wl_v (ov_move rfl) rfl rfl rfl ?_
      refine wl_go rfl rfl ?_
      refine wl_v (ov_max (r := max (d.getD (((es.getD k (0, 0)).1).toNat) 0) (d.getD (((es.getD k (0, 0)).2).toNat) 0)) rfl rfl (by first | omega | (split <;> omega))) rfl rfl rfl ?_
      refine wl_go rfl rfl ?_
      refine wl_v (ov_move rfl) rfl rfl rfl ?_
      refine wl_go rfl rfl ?_
      refine wl_if (ov_eql rfl rfl) rfl rfl rfl (fun c48 => ?_) (fun c48 => ?_)
      ·
        refine wl_v (ov_pick_t rfl rfl) rfl rfl rfl ?_
        refine wl_nil ?_
        refine ce_then ?_
        refine cw_true rfl ?_
        refine cw_region ?_
        refine wl_v (ov_move rfl) rfl rfl rfl ?_
        refine wl_v (ov_add (r := (((cntE d (es.take k) a b) + 1 : Nat) : Int)) rfl rfl rfl (by omega)) rfl rfl rfl ?_
        refine wl_v (ov_assign rfl) rfl rfl rfl ?_
        refine wl_nil ?_
        refine ce_block ?_
        refine ce_then ?_
        refine cw_region ?_
        refine wl_v (ov_move rfl) rfl rfl rfl ?_
        refine wl_v (ov_add (r := ((k + 1 : Nat) : Int)) rfl rfl rfl (by omega)) rfl rfl rfl ?_
        refine wl_v (ov_assign rfl) rfl rfl rfl ?_
        refine wl_nil ?_
        exact fun ac_ w_ hs_ => hR0 (k + 1) (by omega) (by omega) ac_ w_ (hs_.weaken (.cons rfl (.cons rfl (.cons rfl (.cons rfl (.cons rfl (.cons (congrArg (fun z => some (Value.int .i64 z)) (show (((cntE d (es.take k) a b) + 1 : Nat) : Int) = ((cntE d (es.take (k + 1)) a b : Nat) : Int) from (by rw [cntE_yes (by omega) ⟨c42, c48⟩] <;> rfl))) (.cons rfl (.nil)))))))) (.cons (.head) (.nil)))
      ·
        refine wl_v (ov_pick_t rfl rfl) rfl rfl rfl ?_
        refine wl_nil ?_
        refine ce_then ?_
        refine cw_false rfl ?_
        refine cw_skip ?_
        refine ce_block ?_
        refine ce_then ?_
        refine cw_region ?_
        refine wl_v (ov_move rfl) rfl rfl rfl ?_
        refine wl_v (ov_add (r := ((k + 1 : Nat) : Int)) rfl rfl rfl (by omega)) rfl rfl rfl ?_
        refine wl_v (ov_assign rfl) rfl rfl rfl ?_
        refine wl_nil ?_
        exact fun ac_ w_ hs_ => hR0 (k + 1) (by omega) (by omega) ac_ w_ (hs_.weaken (.cons rfl (.cons rfl (.cons rfl (.cons rfl (.cons rfl (.cons (congrArg (fun z => some (Value.int .i64 z)) (show ((cntE d (es.take k) a b : Nat) : Int) = ((cntE d (es.take (k + 1)) a b : Nat) : Int) from (by rw [cntE_no (by omega) (fun h => c48 h.2)]))) (.cons rfl (.nil)))))))) (.cons (.head) (.nil)))
    ·
      refine wl_v (ov_move rfl) rfl rfl rfl ?_
      refine wl_not rfl rfl rfl rfl rfl rfl ?_
      refine wl_not rfl rfl rfl rfl rfl rfl ?_
      refine wl_not rfl rfl rfl rfl rfl rfl ?_
      refine wl_not rfl rfl rfl rfl rfl rfl ?_
      refine wl_not rfl rfl rfl rfl rfl rfl ?_
      refine wl_v (ov_pick_f rfl rfl) rfl rfl rfl ?_
      refine wl_nil ?_
      refine ce_then ?_
      refine cw_false rfl ?_
      refine cw_skip ?_
      refine ce_block ?_
      refine ce_then ?_
      refine cw_region ?_
      refine wl_v (ov_move rfl) rfl rfl rfl ?_
      refine wl_v (ov_add (r := ((k + 1 : Nat) : Int)) rfl rfl rfl (by omega)) rfl rfl rfl ?_
      refine wl_v (ov_assign rfl) rfl rfl rfl ?_
      refine wl_nil ?_
      exact fun ac_ w_ hs_ => hR0 (k + 1) (by omega) (by omega) ac_ w_ (hs_.weaken (.cons rfl (.cons rfl (.cons rfl (.cons rfl (.cons rfl (.cons (congrArg (fun z => some (Value.int .i64 z)) (show ((cntE d (es.take k) a b : Nat) : Int) = ((cntE d (es.take (k + 1)) a b : Nat) : Int) from (by rw [cntE_no (by omega) (fun h => c42 h.1)]))) (.cons rfl (.nil)))))))) (.cons (.head) (.nil)))
  ·
    refine wl_nil ?_
    refine ce_then ?_
    refine cw_false rfl ?_
    refine cw_exit ?_
    refine ce_then_exit ?_
    refine ce_then_exit ?_
    refine ce_hit ?_
    refine ce_then ?_
    refine cw_seq ?_
    refine cw_region ?_
    refine wl_v (ov_move rfl) rfl rfl rfl ?_
    refine wl_v (ov_assign rfl) rfl rfl rfl ?_
    refine wl_nil ?_
    refine ce_then ?_
    refine cw_ret ?_
    refine ce_results (v := .int .i64 (((cntE d (es.take k) a b : Nat) : Int))) (res1 rfl (rv_t rfl)) (fun w' hw => ?_)
    exact ⟨(by rw [List.take_of_length_le (by omega)]), (Keep.nil.ss hw).to_new⟩
set_option maxRecDepth 100000 in
theorem jointOfS_c (w : World) (m : Nat) (A : Option Addr) (n : Nat) (c : Nat) (es : List (Int × Int)) (hA : At w A (cells fE es)) (eA : es.length = n) (lA : n ≤ c) (hg : Gr m es) (hm : m ≤ 7) : Calls Try.prog 41 #[.agg #[.int .i64 (((m : Nat) : Int)), .slice A (n) (c)]] w (Ret fun rv w' => ∃ A2 c2, ((jointL m es).length ≤ c2) ∧ rv = .slice A2 ((jointL m es).length) (c2) ∧ New w w' [row 32 3 A2 ((jointL m es).length) (c2) (cells fJ (jointL m es))]) := by
  have oA := hA.atB
  subst eA
  have hel := hg.len (by omega)
  refine fn_enter (args := [.agg #[.int .i64 (((m : Nat) : Int)), .slice A (es.length) (c)]]) Try.func41 rfl Try.ntmps41 rfl (SS.start w) ?_
  refine cw_seq ?_
  refine cw_region ?_
  refine wl_r (or_box rfl rfl) rfl rfl (kt1 rfl (fun g1 => ?_))
  refine wl_v (ov_assign rfl) rfl rfl rfl ?_
  refine wl_nil ?_
  refine ce_then ?_
  refine cw_seq ?_
  refine cw_region ?_
  refine wl_v (ov_loadAgg (vs := [.int .i64 (((m : Nat) : Int)), .slice A (es.length) (c)]) tI25 (holds_blk (List.Mem.head _)) rfl some_lit rfl rfl) rfl rfl rfl ?_
  refine wl_r (or_call (fv := []) (vs := [.agg #[.int .i64 (((m : Nat) : Int)), .slice A (es.length) (c)]]) (cs := []) en83 rfl rfl (call_x1 (fun w hw => degreesS_c w m A es.length c es ((holds_old oA) w hw) rfl lA (by omega) (by omega) hg.inr))) rfl rfl (kt1p rfl (fun g_9 h_9 => ?_))
  refine wl_v (ov_assign rfl) rfl rfl rfl ?_
  refine wl_nil ?_
  refine ce_then ?_
  refine cw_seq ?_
  refine cw_region ?_
  refine wl_r (or_buildSlice (e := 32) (size := 3) (is := []) (vs := []) (cs := cells fJ ([])) rfl rfl rfl (by decide) (fun _ => by kernel_rfl)) rfl rfl (kt1 rfl (fun g10 => ?_))
  refine wl_v (ov_assign rfl) rfl rfl rfl ?_
  refine wl_nil ?_
  refine ce_then ?_
  refine cw_seq ?_
  refine cw_seq ?_
  refine cw_region ?_
  refine wl_v (ov_assign rfl) rfl rfl rfl ?_
  refine wl_nil ?_
  refine ce_then ?_
  refine cw_block ?_
  refine cw_loop3 (fun (a : Nat) (A4 : Option Addr) (c4 : Nat) => [(1, elp (some ⟨g1, 0, none⟩) (0)), (2, .slice none (0) (0)), (3, .slice (some ⟨g_9, 0, none⟩) (m) (m)), (4, .slice A4 ((jall (cntE (degs m es) es) m a).length) (c4)), (5, .int .i64 (((a : Nat) : Int)))]) (fun (a : Nat) (A4 : Option Addr) (c4 : Nat) => [row 32 3 A4 ((jall (cntE (degs m es) es) m a).length) (c4) (cells fJ (jall (cntE (degs m es) es) m a)), row 3 1 (some ⟨g_9, 0, none⟩) (m) (m) (cells fI (degs m es)), blk g1 [.int .i64 (((m : Nat) : Int)), .slice A (es.length) (c)] 25]) (fun (a : Nat) (A4 : Option Addr) (c4 : Nat) => (1 ≤ a ∧ a ≤ max 1 m) ∧ (jall (cntE (degs m es) es) m a).length ≤ c4) (fun (a : Nat) (A4 : Option Addr) (c4 : Nat) => m + 1 - a) 1 (some ⟨g10, 0, none⟩) 0 ⟨⟨by omega, by omega⟩, Nat.le_refl _⟩ (.cons rfl (.cons rfl (.cons rfl (.cons rfl (.cons (congrArg (fun z => some (Value.int .i64 z)) (show 1 = ((1 : Nat) : Int) by first | omega | rfl | (simp; done))) (.nil)))))) (.consE (show row 32 3 (some ⟨g10, 0, none⟩) (0) (0) (cells fJ ([])) = row 32 3 (some ⟨g10, 0, none⟩) ((jall (cntE (degs m es) es) m 1).length) (0) (cells fJ (jall (cntE (degs m es) es) m 1)) by rfl) (.head) (.cons (.head) (.cons (.head) (.nil)))) ?_
  intro R0 a A4 c4 hk hR0
  obtain ⟨hk1, hk2⟩ := hk
  have hjl := jall_len (cntE (degs m es) es) hm (a := a) (by omega)
  refine cw_seq ?_
  refine cw_seq ?_
  refine cw_region ?_
  refine wl_v (ov_move rfl) rfl rfl rfl ?_
  refine wl_v (ov_fieldAddr fI25_0 some_lit rfl) rfl rfl rfl ?_
  refine wl_v (ov_load tI3 (holds_blk (List.Mem.tail _ (List.Mem.tail _ (List.Mem.head _)))) rfl rfl) rfl rfl rfl ?_
  refine wl_if (ov_lss rfl rfl) rfl rfl rfl (fun c14 => ?_) (fun c14 => ?_)
  ·
    refine wl_nil ?_
    refine ce_then ?_
    refine cw_true rfl ?_
    refine cw_skip ?_
    refine ce_then ?_
    refine cw_seq ?_
    refine cw_block ?_
    refine cw_seq ?_
    refine cw_region ?_
    refine wl_v (ov_move rfl) rfl rfl rfl ?_
    refine wl_v (ov_assign rfl) rfl rfl rfl ?_
    refine wl_nil ?_
    refine ce_then ?_
    refine cw_block ?_
    refine cw_loop3 (fun (b : Nat) (A5 : Option Addr) (c5 : Nat) => [(1, elp (some ⟨g1, 0, none⟩) (0)), (2, .slice none (0) (0)), (3, .slice (some ⟨g_9, 0, none⟩) (m) (m)), (5, .int .i64 (((a : Nat) : Int))), (4, .slice A5 ((jall (cntE (degs m es) es) m a ++ jrow (cntE (degs m es) es) a b).length) (c5)), (6, .int .i64 (((b : Nat) : Int)))]) (fun (b : Nat) (A5 : Option Addr) (c5 : Nat) => [row 32 3 A5 ((jall (cntE (degs m es) es) m a ++ jrow (cntE (degs m es) es) a b).length) (c5) (cells fJ (jall (cntE (degs m es) es) m a ++ jrow (cntE (degs m es) es) a b)), row 3 1 (some ⟨g_9, 0, none⟩) (m) (m) (cells fI (degs m es)), blk g1 [.int .i64 (((m : Nat) : Int)), .slice A (es.length) (c)] 25]) (fun (b : Nat) (A5 : Option Addr) (c5 : Nat) => (a ≤ b ∧ b ≤ m) ∧ (jall (cntE (degs m es) es) m a ++ jrow (cntE (degs m es) es) a b).length ≤ c5) (fun (b : Nat) (A5 : Option Addr) (c5 : Nat) => m - b) a A4 c4 ⟨⟨by omega, by omega⟩, by rw [jrow_self, List.append_nil]; exact hk2⟩ (.cons rfl (.cons rfl (.cons rfl (.cons rfl (.cons (congrArg (fun z => some (Value.slice A4 z c4)) (show ((jall (cntE (degs m es) es) m a).length) = ((jall (cntE (degs m es) es) m a ++ jrow (cntE (degs m es) es) a a).length) from (by rw [jrow_self, List.append_nil]))) (.cons rfl (.nil))))))) (.consE (show row 32 3 A4 ((jall (cntE (degs m es) es) m a).length) (c4) (cells fJ (jall (cntE (degs m es) es) m a)) = row 32 3 A4 ((jall (cntE (degs m es) es) m a ++ jrow (cntE (degs m es) es) a a).length) (c4) (cells fJ (jall (cntE (degs m es) es) m a ++ jrow (cntE (degs m es) es) a a)) by rw [jrow_self, List.append_nil]) (.head) (.cons (.head) (.cons (.head) (.nil)))) ?_
    intro R1 b A5 c5 hk1 hR1
    obtain ⟨hq1, hq2⟩ := hk1
    have hjr := jrow_len (cntE (degs m es) es) a b
    have hjs : (jall (cntE (degs m es) es) m a ++ jrow (cntE (degs m es) es) a b).length = (jall (cntE (degs m es) es) m a).length + (jrow (cntE (degs m es) es) a b).length := List.length_append
    refine cw_seq ?_
    refine cw_seq ?_
    refine cw_region ?_
    refine wl_v (ov_move rfl) rfl rfl rfl ?_
    refine wl_v (ov_fieldAddr fI25_0 some_lit rfl) rfl rfl rfl ?_
    refine wl_v (ov_load tI3 (holds_blk (List.Mem.tail _ (List.Mem.tail _ (List.Mem.head _)))) rfl rfl) rfl rfl rfl ?_
    refine wl_if (ov_lss rfl rfl) rfl rfl rfl (fun c21 => ?_) (fun c21 => ?_)
    ·
      refine wl_nil ?_
      refine ce_then ?_
      refine cw_true rfl ?_
      refine cw_skip ?_
      refine ce_then ?_
      refine cw_seq ?_
      refine cw_block ?_
      refine cw_seq ?_
      refine cw_region ?_
      refine wl_v (ov_loadAgg (vs := [.int .i64 (((m : Nat) : Int)), .slice A (es.length) (c)]) tI25 (holds_blk (List.Mem.tail _ (List.Mem.tail _ (List.Mem.head _)))) rfl some_lit rfl rfl) rfl rfl rfl ?_
      refine wl_v (ov_move rfl) rfl rfl rfl ?_
      refine wl_v (ov_move rfl) rfl rfl rfl ?_
      refine wl_v (ov_move rfl) rfl rfl rfl ?_
      refine wl_r (or_call (fv := []) (vs := [.agg #[.int .i64 (((m : Nat) : Int)), .slice A (es.length) (c)], .slice (some ⟨g_9, 0, none⟩) (m) (m), .int .i64 (((a : Nat) : Int)), .int .i64 (((b : Nat) : Int))]) (cs := []) en84 rfl rfl (call_v (fun w hw => jointCount_c w m A es.length c es (some ⟨g_9, 0, none⟩) m m (degs m es) ((a : Nat) : Int) ((b : Nat) : Int) ((holds_old oA) w hw) rfl lA ((holds_row (List.Mem.tail _ (List.Mem.head _))) w hw) (degs_length _ _) (Nat.le_refl _) (by omega) rfl hg.inr))) rfl rfl (kt0 rfl ?_)
      refine wl_v (ov_assign rfl) rfl rfl rfl ?_
      refine wl_nil ?_
      refine ce_then ?_
      refine cw_seq ?_
      refine cw_region ?_
      refine wl_v (ov_move rfl) rfl rfl rfl ?_
      refine wl_if (ov_gtr rfl rfl) rfl rfl rfl (fun c30 => ?_) (fun c30 => ?_)
      ·
        refine wl_nil ?_
        refine ce_then ?_
        refine cw_true rfl ?_
        refine cw_region ?_
        refine wl_v (ov_move rfl) rfl rfl rfl ?_
        refine wl_v (ov_move rfl) rfl rfl rfl ?_
        refine wl_v (ov_move rfl) rfl rfl rfl ?_
        refine wl_v (ov_move rfl) rfl rfl rfl ?_
        refine wl_v (ov_build (is := [0, 1, 2]) (vs := [.int .i64 (((a : Nat) : Int)), .int .i64 (((b : Nat) : Int)), .int .i64 (((cntE (degs m es) es ((a : Nat) : Int) ((b : Nat) : Int) : Nat) : Int))]) (v := .agg #[.int .i64 (((a : Nat) : Int)), .int .i64 (((b : Nat) : Int)), .int .i64 (((cntE (degs m es) es ((a : Nat) : Int) ((b : Nat) : Int) : Nat) : Int))]) rfl rfl (fun _ => by kernel_rfl)) rfl rfl rfl ?_
        refine wl_r (or_buildSlice (e := 32) (size := 3) (is := [0]) (vs := [.agg #[.int .i64 (((a : Nat) : Int)), .int .i64 (((b : Nat) : Int)), .int .i64 (((cntE (degs m es) es ((a : Nat) : Int) ((b : Nat) : Int) : Nat) : Int))]]) (cs := cells fJ ([(((a : Nat) : Int), ((b : Nat) : Int), ((cntE (degs m es) es ((a : Nat) : Int) ((b : Nat) : Int) : Nat) : Int))])) rfl rfl rfl (by decide) (fun _ => by kernel_rfl)) rfl rfl (kt1 rfl (fun g36 => ?_))
        refine wl_r (or_append (c2 := 1) sI27 tI32 rfl (by decide) rfl rfl (.tail .head) (holds_row (List.Mem.head _)) (by rw [cells_length fJ_len]; try simp) (one_cells fJ_one _) cells_append (by omega) (by omega)) rfl rfl (kt2p rfl (fun A37 c37 h37 => ?_))
        refine wl_v (ov_assign rfl) rfl rfl rfl ?_
        refine wl_nil ?_
        refine ce_block ?_
        refine ce_then ?_
        refine cw_region ?_
        refine wl_v (ov_move rfl) rfl rfl rfl ?_
        refine wl_v (ov_add (r := ((b + 1 : Nat) : Int)) rfl rfl rfl (by omega)) rfl rfl rfl ?_
        refine wl_v (ov_assign rfl) rfl rfl rfl ?_
        refine wl_nil ?_
        have hjn : jall (cntE (degs m es) es) m a ++ jrow (cntE (degs m es) es) a (b + 1) = (jall (cntE (degs m es) es) m a ++ jrow (cntE (degs m es) es) a b) ++ [(((a : Nat) : Int), ((b : Nat) : Int), (((cntE (degs m es) es) ((a : Nat) : Int) ((b : Nat) : Int) : Nat) : Int))] := by rw [jrow_yes (by omega) c30, List.append_assoc]
        exact fun ac_ w_ hs_ => hR1 (b + 1) A37 c37 ⟨⟨by omega, by omega⟩, by rw [hjn, List.length_append (bs := [_])]; exact h37⟩ (by omega) ac_ w_ (hs_.weaken (.cons rfl (.cons rfl (.cons rfl (.cons rfl (.cons (congrArg (fun z => some (Value.slice A37 z c37)) (show (((jall (cntE (degs m es) es) m a ++ jrow (cntE (degs m es) es) a b).length) + 1) = ((jall (cntE (degs m es) es) m a ++ jrow (cntE (degs m es) es) a (b + 1)).length) from (by rw [hjn, List.length_append (bs := [_])]; rfl))) (.cons rfl (.nil))))))) (.consE (show row 32 3 A37 (((jall (cntE (degs m es) es) m a ++ jrow (cntE (degs m es) es) a b).length) + 1) (c37) (cells fJ ((jall (cntE (degs m es) es) m a ++ jrow (cntE (degs m es) es) a b) ++ ([(((a : Nat) : Int), ((b : Nat) : Int), ((cntE (degs m es) es ((a : Nat) : Int) ((b : Nat) : Int) : Nat) : Int))]))) = row 32 3 A37 ((jall (cntE (degs m es) es) m a ++ jrow (cntE (degs m es) es) a (b + 1)).length) (c37) (cells fJ (jall (cntE (degs m es) es) m a ++ jrow (cntE (degs m es) es) a (b + 1))) by rw [hjn, List.length_append (bs := [_])]; rfl) (.head) (.cons (.tail .head) (.cons (.tail .head) (.nil)))))
      ·
        refine wl_nil ?_
        refine ce_then ?_
        refine cw_false rfl ?_
        refine cw_skip ?_
        refine ce_block ?_
        refine ce_then ?_
        refine cw_region ?_
        refine wl_v (ov_move rfl) rfl rfl rfl ?_
        refine wl_v (ov_add (r := ((b + 1 : Nat) : Int)) rfl rfl rfl (by omega)) rfl rfl rfl ?_
        refine wl_v (ov_assign rfl) rfl rfl rfl ?_
        refine wl_nil ?_
        exact fun ac_ w_ hs_ => hR1 (b + 1) A5 c5 ⟨⟨by omega, by omega⟩, by rw [jrow_no (by omega) c30]; exact hq2⟩ (by omega) ac_ w_ (hs_.weaken (.cons rfl (.cons rfl (.cons rfl (.cons rfl (.cons (congrArg (fun z => some (Value.slice A5 z c5)) (show ((jall (cntE (degs m es) es) m a ++ jrow (cntE (degs m es) es) a b).length) = ((jall (cntE (degs m es) es) m a ++ jrow (cntE (degs m es) es) a (b + 1)).length) from (by rw [jrow_no (by omega) c30]))) (.cons rfl (.nil))))))) (.consE (show row 32 3 A5 ((jall (cntE (degs m es) es) m a ++ jrow (cntE (degs m es) es) a b).length) (c5) (cells fJ (jall (cntE (degs m es) es) m a ++ jrow (cntE (degs m es) es) a b)) = row 32 3 A5 ((jall (cntE (degs m es) es) m a ++ jrow (cntE (degs m es) es) a (b + 1)).length) (c5) (cells fJ (jall (cntE (degs m es) es) m a ++ jrow (cntE (degs m es) es) a (b + 1))) by rw [jrow_no (by omega) c30]) (.head) (.cons (.head) (.cons (.head) (.nil)))))
    ·
      have hbm : b = m := by omega
      have hje : jall (cntE (degs m es) es) m (a + 1) = jall (cntE (degs m es) es) m a ++ jrow (cntE (degs m es) es) a b := by rw [jall_succ (by omega), hbm]
      refine wl_nil ?_
      refine ce_then ?_
      refine cw_false rfl ?_
      refine cw_exit ?_
      refine ce_then_exit ?_
      refine ce_then_exit ?_
      refine ce_hit ?_
      refine ce_block ?_
      refine ce_then ?_
      refine cw_region ?_
      refine wl_v (ov_move rfl) rfl rfl rfl ?_
      refine wl_v (ov_add (r := ((a + 1 : Nat) : Int)) rfl rfl rfl (by omega)) rfl rfl rfl ?_
      refine wl_v (ov_assign rfl) rfl rfl rfl ?_
      refine wl_nil ?_
      exact fun ac_ w_ hs_ => hR0 (a + 1) A5 c5 ⟨⟨by omega, by omega⟩, by rw [hje]; exact hq2⟩ (by omega) ac_ w_ (hs_.weaken (.cons rfl (.cons rfl (.cons rfl (.cons (congrArg (fun z => some (Value.slice A5 z c5)) (show ((jall (cntE (degs m es) es) m a ++ jrow (cntE (degs m es) es) a b).length) = ((jall (cntE (degs m es) es) m (a + 1)).length) from (by rw [hje]))) (.cons rfl (.nil)))))) (.consE (show row 32 3 A5 ((jall (cntE (degs m es) es) m a ++ jrow (cntE (degs m es) es) a b).length) (c5) (cells fJ (jall (cntE (degs m es) es) m a ++ jrow (cntE (degs m es) es) a b)) = row 32 3 A5 ((jall (cntE (degs m es) es) m (a + 1)).length) (c5) (cells fJ (jall (cntE (degs m es) es) m (a + 1))) by rw [hje]) (.head) (.cons (.head) (.cons (.head) (.nil)))))
  ·
    refine wl_nil ?_
    refine ce_then ?_
    refine cw_false rfl ?_
    refine cw_exit ?_
    refine ce_then_exit ?_
    refine ce_then_exit ?_
    refine ce_hit ?_
    refine ce_then ?_
    refine cw_seq ?_
    refine cw_region ?_
    refine wl_v (ov_move rfl) rfl rfl rfl ?_
    refine wl_v (ov_assign rfl) rfl rfl rfl ?_
    refine wl_nil ?_
    refine ce_then ?_
    refine cw_ret ?_
    refine ce_results (v := .slice A4 ((jall (cntE (degs m es) es) m a).length) (c4)) (res1 rfl (rv_t rfl)) (fun w' hw => ?_)
    exact ⟨A4, c4, (by rw [show jointL m es = jall (cntE (degs m es) es) m a from (jall_end _ (by omega) (by omega)).symm]; exact hk2), (by rw [show jointL m es = jall (cntE (degs m es) es) m a from (jall_end _ (by omega) (by omega)).symm]), ((.consE (show row 32 3 A4 ((jall (cntE (degs m es) es) m a).length) (c4) (cells fJ (jall (cntE (degs m es) es) m a)) = row 32 3 A4 ((jointL m es).length) (c4) (cells fJ (jointL m es)) by rw [show jointL m es = jall (cntE (degs m es) es) m a from (jall_end _ (by omega) (by omega)).symm]) (.head) (.nil) : Keep _ _).ss hw).to_new⟩
set_option maxRecDepth 100000 in
theorem JointOfS_c (w : World) (N : Int) (A : Option Addr) (n : Nat) (c : Nat) (es : List (Int × Int)) (hA : At w A (cells fE es)) (eA : es.length = n) (lA : n ≤ c) (hs : es.length ≤ 1048576) (hN : N ≤ 9223372036854775807) : Calls Try.prog 11 #[.agg #[.int .i64 (N), .slice A (n) (c)]] w (Ret fun rv w' => ∃ A2 k2 c2, ((jointV N es).length ≤ k2) ∧ rv = .slice A2 ((jointV N es).length) (k2) ∧ New w w' [row 32 3 A2 ((jointV N es).length) (c2) (cells fJ (jointV N es))]) := by
  have oA := hA.atB
  subst eA
  refine fn_enter (args := [.agg #[.int .i64 (N), .slice A (es.length) (c)]]) Try.func11 rfl Try.ntmps11 rfl (SS.start w) ?_
  refine cw_seq ?_
  refine cw_region ?_
  refine wl_r (or_box rfl rfl) rfl rfl (kt1 rfl (fun g1 => ?_))
  refine wl_v (ov_assign rfl) rfl rfl rfl ?_
  refine wl_nil ?_
  refine ce_then ?_
  refine cw_seq ?_
  refine cw_seq ?_
  refine cw_region ?_
  refine wl_v (ov_loadAgg (vs := [.int .i64 (N), .slice A (es.length) (c)]) tI25 (holds_blk (List.Mem.head _)) rfl some_lit rfl rfl) rfl rfl rfl ?_
  refine wl_r (or_call (fv := []) (vs := [.agg #[.int .i64 (N), .slice A (es.length) (c)]]) (cs := []) en40 rfl rfl (call_v (fun w hw => validGraphS_c w N A es.length c es ((holds_old oA) w hw) rfl lA (by first | assumption | omega | (simp; omega))))) rfl rfl (kt_if rfl (fun c4 => ?_) (fun c4 => ?_))
  ·
    refine wl_v (ov_not rfl) rfl rfl rfl ?_
    refine wl_nil ?_
    refine ce_then ?_
    refine cw_false rfl ?_
    refine cw_skip ?_
    refine ce_then ?_
    refine cw_seq ?_
    obtain ⟨m, rfl⟩ := Int.eq_ofNat_of_zero_le (show 0 ≤ N from c4.2.1)
    have hg : Gr m es := by have h9 := c4.gr; rwa [Int.toNat_natCast] at h9
    have hm : m ≤ 7 := by have h9 := c4.2.2; omega
    have hel := hg.len (by omega)
    have hv : jointV ((m : Nat) : Int) es = jointL m es := (if_pos c4).trans (by rw [Int.toNat_natCast])
    refine cw_region ?_
    refine wl_v (ov_loadAgg (vs := [.int .i64 (((m : Nat) : Int)), .slice A (es.length) (c)]) tI25 (holds_blk (List.Mem.head _)) rfl some_lit rfl rfl) rfl rfl rfl ?_
    refine wl_r (or_call (fv := []) (vs := [.agg #[.int .i64 (((m : Nat) : Int)), .slice A (es.length) (c)]]) (cs := []) en41 rfl rfl (call_x2 (fun w hw => jointOfS_c w m A es.length c es ((holds_old oA) w hw) rfl lA (by first | assumption | omega | (simp; omega)) (by omega)))) rfl rfl (kt2p rfl (fun A2_7 c2_7 h_7 => ?_))
    refine wl_v (ov_assign rfl) rfl rfl rfl ?_
    refine wl_nil ?_
    refine ce_then ?_
    refine cw_ret ?_
    refine ce_results (v := .slice A2_7 ((jointL m es).length) (c2_7)) (res1 rfl (rv_t rfl)) (fun w' hw => ?_)
    exact ⟨A2_7, c2_7, c2_7, (by rw [hv]; exact h_7), (by rw [hv]), ((.consE (show row 32 3 A2_7 ((jointL m es).length) (c2_7) (cells fJ (jointL m es)) = row 32 3 A2_7 ((jointV ((m : Nat) : Int) es).length) (c2_7) (cells fJ (jointV ((m : Nat) : Int) es)) by rw [hv]) (.head) (.nil) : Keep _ _).ss hw).to_new⟩
  ·
    refine wl_v (ov_not rfl) rfl rfl rfl ?_
    refine wl_nil ?_
    refine ce_then ?_
    refine cw_true rfl ?_
    refine cw_seq ?_
    have hv : jointV N es = [] := if_neg c4
    refine ct_none fJ 32 3 ?_
    refine cw_region ?_
    refine wl_v (ov_assign rfl) rfl rfl rfl ?_
    refine wl_nil ?_
    refine ce_then ?_
    refine cw_ret ?_
    refine ce_then_ret ?_
    refine ce_results (v := .slice none (0) (0)) (res1 rfl (rv_t rfl)) (fun w' hw => ?_)
    exact ⟨none, 0, 0, (by rw [hv]; exact Nat.le_refl _), (by rw [hv] <;> rfl), ((.consE (show row 32 3 none (0) (0) (cells fJ ([])) = row 32 3 none ((jointV N es).length) (0) (cells fJ (jointV N es)) by rw [hv] <;> rfl) (.head) (.nil) : Keep _ _).ss hw).to_new⟩
set_option maxRecDepth 100000 in
theorem JointOfI_c (w : World) (N : Int) (A : Option Addr) (n : Nat) (c : Nat) (es : List (Int × Int)) (hA : At w A (cells fE es)) (eA : es.length = n) (lA : n ≤ c) (hs : es.length ≤ 1048576) (hN : N ≤ 9223372036854775807) : Calls Try.prog 9 #[.agg #[.int .i64 (N), .slice A (n) (c)]] w (Ret fun rv w' => ∃ A2 k2 c2, ((jointV N es).length ≤ k2) ∧ rv = .slice A2 ((jointV N es).length) (k2) ∧ New w w' [row 32 3 A2 ((jointV N es).length) (c2) (cells fJ (jointV N es))]) := by
  have oA := hA.atB
  subst eA
  refine fn_enter (args := [.agg #[.int .i64 (N), .slice A (es.length) (c)]]) Try.func9 rfl Try.ntmps9 rfl (SS.start w) ?_
  refine cw_seq ?_
  refine cw_region ?_
  refine wl_r (or_box rfl rfl) rfl rfl (kt1 rfl (fun g1 => ?_))
  refine wl_v (ov_assign rfl) rfl rfl rfl ?_
  refine wl_nil ?_
  refine ce_then ?_
  refine cw_seq ?_
  refine cw_seq ?_
  refine cw_region ?_
  refine wl_v (ov_loadAgg (vs := [.int .i64 (N), .slice A (es.length) (c)]) tI25 (holds_blk (List.Mem.head _)) rfl some_lit rfl rfl) rfl rfl rfl ?_
  refine wl_r (or_call (fv := []) (vs := [.agg #[.int .i64 (N), .slice A (es.length) (c)]]) (cs := []) en12 rfl rfl (call_v (fun w hw => validGraphI_c w N A es.length c es ((holds_old oA) w hw) rfl lA (by first | assumption | omega | (simp; omega)) (by first | assumption | omega | (simp; omega))))) rfl rfl (kt_if rfl (fun c11 => ?_) (fun c11 => ?_))
  ·
    refine wl_v (ov_not rfl) rfl rfl rfl ?_
    refine wl_nil ?_
    refine ce_then ?_
    refine cw_false rfl ?_
    refine cw_skip ?_
    refine ce_then ?_
    refine cw_seq ?_
    obtain ⟨m, rfl⟩ := Int.eq_ofNat_of_zero_le (show 0 ≤ N from c11.2.1)
    have hg : Gr m es := by have h9 := c11.gr; rwa [Int.toNat_natCast] at h9
    have hm : m ≤ 7 := by have h9 := c11.2.2; omega
    have hel := hg.len (by omega)
    have hv : jointV ((m : Nat) : Int) es = jointL m es := (if_pos c11).trans (by rw [Int.toNat_natCast])
    refine cw_region ?_
    refine wl_v (ov_loadAgg (vs := [.int .i64 (((m : Nat) : Int)), .slice A (es.length) (c)]) tI25 (holds_blk (List.Mem.head _)) rfl some_lit rfl rfl) rfl rfl rfl ?_
    refine wl_r (or_call (fv := []) (vs := [.agg #[.int .i64 (((m : Nat) : Int)), .slice A (es.length) (c)]]) (cs := []) en33 rfl rfl (call_x1 (fun w hw => degreesI_c w m A es.length c es ((holds_old oA) w hw) rfl lA (by omega) (by omega) hg.inr))) rfl rfl (kt1p rfl (fun g_14 h_14 => ?_))
    refine wl_v (ov_assign rfl) rfl rfl rfl ?_
    refine wl_nil ?_
    refine ce_then ?_
    refine cw_seq ?_
    refine cw_region ?_
    refine wl_r or_makeMap rfl rfl (kt1 rfl (fun g15 => ?_))
    refine wl_v (ov_assign rfl) rfl rfl rfl ?_
    refine wl_nil ?_
    refine ce_then ?_
    refine cw_seq ?_
    refine cw_seq ?_
    refine cw_region ?_
    refine wl_v (ov_fieldAddr fI25_1 some_lit rfl) rfl rfl rfl ?_
    refine wl_v (ov_load tI23 (holds_blk (List.Mem.tail _ (List.Mem.tail _ (List.Mem.head _)))) rfl rfl) rfl rfl rfl ?_
    refine wl_v (ov_len (sliceI_spec sI23) rfl) rfl rfl rfl ?_
    refine wl_v (ov_move rfl) rfl rfl rfl ?_
    refine wl_nil ?_
    refine ce_then ?_
    refine cw_block ?_
    refine cw_loop1 (fun (k : Nat) => [(2, .slice none (0) (0)), (3, .slice (some ⟨g_14, 0, none⟩) (m) (m)), (4, .map (some g15)), (17, .slice A (es.length) (c)), (18, .int .i64 (((es.length : Nat) : Int))), (19, .int .i64 (((k : Nat) : Int)))]) (fun (k : Nat) => [mapE g15 (mapTo (degs m es) es k), row 3 1 (some ⟨g_14, 0, none⟩) (m) (m) (cells fI (degs m es)), blk g1 [.int .i64 (((m : Nat) : Int)), .slice A (es.length) (c)] 25]) (fun (k : Nat) => k ≤ es.length) (fun (k : Nat) => es.length - k) 0 (by omega) (.cons rfl (.cons rfl (.cons rfl (.cons rfl (.cons rfl (.cons (congrArg (fun z => some (Value.int .i64 z)) (show 0 = ((0 : Nat) : Int) by first | omega | rfl | (simp; done))) (.nil))))))) (.consE (show mapE g15 ([]) = mapE g15 (mapTo (degs m es) es 0) by rfl) (.head) (.cons (.head) (.cons (.head) (.nil)))) ?_
    intro R0 k hk hR0
    have hvb := valI_mapTo (degs m es) es k (min ((degs m es).getD (es.getD k (0, 0)).1.toNat 0) ((degs m es).getD (es.getD k (0, 0)).2.toNat 0)) (max ((degs m es).getD (es.getD k (0, 0)).1.toNat 0) ((degs m es).getD (es.getD k (0, 0)).2.toNat 0))
    refine cw_seq ?_
    refine cw_region ?_
    refine wl_if (ov_lss rfl rfl) rfl rfl rfl (fun c20 => ?_) (fun c20 => ?_)
    ·
      refine wl_nil ?_
      refine ce_then ?_
      refine cw_seq ?_
      refine cw_true rfl ?_
      refine cw_skip ?_
      refine ce_then ?_
      refine cw_seq ?_
      refine cw_block ?_
      refine cw_seq ?_
      refine cw_region ?_
      refine wl_v (ov_index (k := k) (c := c) sI23 tI65 rfl rfl (some_holds (q := k * 2) (holds_old oA) (by rw [cells_length fE_len]; have hlt : k < es.length := (by first | omega | (simp; omega)); omega)) (show k < es.length from (by first | omega | (simp; omega)))) rfl rfl rfl ?_
      refine wl_v (ov_loadAgg (vs := [.int .i64 ((es.getD k (0, 0)).1), .int .i64 ((es.getD k (0, 0)).2)]) tI65 (holds_old oA) rfl (some_holds (q := k * 2) (holds_old oA) (by rw [cells_length fE_len]; have hlt : k < es.length := (by first | omega | (simp; omega)); omega)) (cells_elem fE_len (0, 0) (show k < es.length from (by first | omega | (simp; omega)))) rfl) rfl rfl rfl ?_
      have hek := hg.inr _ (getD_mem (xs := es) (k := k) (0, 0) (by omega))
      refine wl_r (or_alloc tI65 rfl) rfl rfl (kt1 rfl (fun g6 => ?_))
      refine wl_r0 (or_store_blk (vs := [.int .i64 ((es.getD k (0, 0)).1), .int .i64 ((es.getD k (0, 0)).2)]) (cs' := [.int .i64 ((es.getD k (0, 0)).1), .int .i64 ((es.getD k (0, 0)).2)]) (.head) tI65 rfl rfl rfl rfl (Nat.le_of_ble_eq_true rfl) rfl) rfl rfl (kn0 ?_)
      refine wl_nil ?_
      refine ce_then ?_
      refine cw_draw mixO [] (.cons (.head) (.cons (.tail .head) (.cons (.tail .head) (.nil)))) rfl ?_
      refine wg_takep (i := 0) rfl (ov_move rfl) rfl rfl rfl (by kernel_rfl) (by kernel_rfl) (by kernel_rfl) rfl ?_
      refine wg_takep (i := 1) rfl (ov_move rfl) rfl rfl rfl (by kernel_rfl) (by kernel_rfl) (by kernel_rfl) rfl ?_
      refine wg_take (i := 2) rfl (ov_fieldAddr fI65_0 some_lit rfl) rfl rfl rfl (by kernel_rfl) (by kernel_rfl) (by kernel_rfl) (by kernel_rfl) ?_
      refine wg_take (i := 3) rfl (ov_load tI3 (holds_blk (List.Mem.head _)) rfl rfl) rfl rfl rfl (by kernel_rfl) (by kernel_rfl) (by kernel_rfl) (by kernel_rfl) ?_
      refine wg_take (i := 4) rfl (ov_indexg sI38 tI3 rfl rfl (some_holds (q := (((es.getD k (0, 0)).1).toNat) * 1) (holds_row (List.Mem.tail _ (List.Mem.head _))) (by rw [cells_length fI_len]; have hlt : ((es.getD k (0, 0)).1).toNat < (degs m es).length := (by first | omega | (rw [degs_length]; omega)); omega)) (by first | omega | (rw [degs_length]; omega)) (show ((es.getD k (0, 0)).1).toNat < m from (by first | omega | (rw [degs_length]; omega)))) rfl rfl rfl (by kernel_rfl) (by kernel_rfl) (by kernel_rfl) (by kernel_rfl) ?_
      refine wg_take (i := 5) rfl (ov_load tI3 (holds_row (List.Mem.tail _ (List.Mem.head _))) rfl (get_fI (show ((es.getD k (0, 0)).1).toNat < (degs m es).length from (by first | omega | (rw [degs_length]; omega))))) rfl rfl rfl (by kernel_rfl) (by kernel_rfl) (by kernel_rfl) (by kernel_rfl) ?_
      refine wg_takep (i := 6) rfl (ov_move rfl) rfl rfl rfl (by kernel_rfl) (by kernel_rfl) (by kernel_rfl) rfl ?_
      refine wg_take (i := 7) rfl (ov_fieldAddr fI65_1 some_lit rfl) rfl rfl rfl (by kernel_rfl) (by kernel_rfl) (by kernel_rfl) (by kernel_rfl) ?_
      refine wg_take (i := 8) rfl (ov_load tI3 (holds_blk (List.Mem.head _)) rfl rfl) rfl rfl rfl (by kernel_rfl) (by kernel_rfl) (by kernel_rfl) (by kernel_rfl) ?_
      refine wg_take (i := 9) rfl (ov_indexg sI38 tI3 rfl rfl (some_holds (q := (((es.getD k (0, 0)).2).toNat) * 1) (holds_row (List.Mem.tail _ (List.Mem.head _))) (by rw [cells_length fI_len]; have hlt : ((es.getD k (0, 0)).2).toNat < (degs m es).length := (by first | omega | (rw [degs_length]; omega)); omega)) (by first | omega | (rw [degs_length]; omega)) (show ((es.getD k (0, 0)).2).toNat < m from (by first | omega | (rw [degs_length]; omega)))) rfl rfl rfl (by kernel_rfl) (by kernel_rfl) (by kernel_rfl) (by kernel_rfl) ?_
      refine wg_take (i := 10) rfl (ov_load tI3 (holds_row (List.Mem.tail _ (List.Mem.head _))) rfl (get_fI (show ((es.getD k (0, 0)).2).toNat < (degs m es).length from (by first | omega | (rw [degs_length]; omega))))) rfl rfl rfl (by kernel_rfl) (by kernel_rfl) (by kernel_rfl) (by kernel_rfl) ?_
      refine wg_one (i := 11) (by kernel_rfl) ?_
      refine go_r rfl rfl rfl rfl (or_call (fv := []) (vs := [.int .i64 (((degs m es).getD (((es.getD k (0, 0)).1).toNat) 0)), .int .i64 (((degs m es).getD (((es.getD k (0, 0)).2).toNat) 0))]) (cs := []) en34 rfl rfl (call_v (fun w hw => edge_c w ((degs m es).getD (((es.getD k (0, 0)).1).toNat) 0) ((degs m es).getD (((es.getD k (0, 0)).2).toNat) 0) ))) (kt0 rfl ?_)
      refine gk (.cons (.head) (.cons (.tail .head) (.cons (.tail .head) (.nil)))) ?_
      refine wg_two (i := 12) (j := 14) (by kernel_rfl) ?_ ?_
      ·
        refine go_r rfl rfl rfl rfl (OpV.opR (ov_lookup uM63 eqE65 tI3 (M := mapTo (degs m es) es k) (k1 := min ((degs m es).getD (((es.getD k (0, 0)).1).toNat) 0) ((degs m es).getD (((es.getD k (0, 0)).2).toNat) 0)) (k2 := max ((degs m es).getD (((es.getD k (0, 0)).1).toNat) 0) ((degs m es).getD (((es.getD k (0, 0)).2).toNat) 0)) (List.Mem.tail _ (List.Mem.head _)) rfl rfl)) (kt0 rfl ?_)
        refine gk (.cons (.head) (.cons (.tail .head) (.cons (.tail .head) (.nil)))) ?_
        refine wg_takep (i := 13) rfl (ov_add (r := (valI (mapTo (degs m es) es k) (min ((degs m es).getD (((es.getD k (0, 0)).1).toNat) 0) ((degs m es).getD (((es.getD k (0, 0)).2).toNat) 0)) (max ((degs m es).getD (((es.getD k (0, 0)).1).toNat) 0) ((degs m es).getD (((es.getD k (0, 0)).2).toNat) 0))) + 1) rfl rfl rfl (by omega)) rfl rfl rfl (by kernel_rfl) (by kernel_rfl) (by kernel_rfl) rfl ?_
        refine wg_one (i := 14) (by kernel_rfl) ?_
        refine go_r rfl rfl rfl rfl (or_mapEntry uM63 eqE65 tI3 (M := mapTo (degs m es) es k) (k1 := min ((degs m es).getD (((es.getD k (0, 0)).1).toNat) 0) ((degs m es).getD (((es.getD k (0, 0)).2).toNat) 0)) (k2 := max ((degs m es).getD (((es.getD k (0, 0)).1).toNat) 0) ((degs m es).getD (((es.getD k (0, 0)).2).toNat) 0)) (.tail .head) rfl rfl) (kt0 rfl ?_)
        refine gk (.cons (.tail .head) (.cons (.tail .head) (.cons (.tail .head) (.nil)))) ?_
        refine wg_takep (i := 15) rfl (ov_extract rfl rfl) rfl rfl rfl (by kernel_rfl) (by kernel_rfl) (by kernel_rfl) rfl ?_
        refine wg_one (i := 16) (by kernel_rfl) ?_
        refine go_r0 rfl rfl rfl rfl (or_entryStore (M := mapTo (degs m es) es k) (k1 := min ((degs m es).getD (((es.getD k (0, 0)).1).toNat) 0) ((degs m es).getD (((es.getD k (0, 0)).2).toNat) 0)) (k2 := max ((degs m es).getD (((es.getD k (0, 0)).1).toNat) 0) ((degs m es).getD (((es.getD k (0, 0)).2).toNat) 0)) (v := (valI (mapTo (degs m es) es k) (min ((degs m es).getD (((es.getD k (0, 0)).1).toNat) 0) ((degs m es).getD (((es.getD k (0, 0)).2).toNat) 0)) (max ((degs m es).getD (((es.getD k (0, 0)).1).toNat) 0) ((degs m es).getD (((es.getD k (0, 0)).2).toNat) 0))) + 1) (.head) rfl rfl rfl) (kn0 ?_)
        refine gk (.cons (.tail .head) (.cons (.tail .head) (.cons (.tail .head) (.nil)))) ?_
        refine wg_done (by kernel_rfl) ?_
        refine ce_block ?_
        refine ce_then ?_
        refine cw_region ?_
        refine wl_v (ov_add (r := ((k + 1 : Nat) : Int)) rfl rfl rfl (by omega)) rfl rfl rfl ?_
        refine wl_v (ov_move rfl) rfl rfl rfl ?_
        refine wl_nil ?_
        exact fun ac_ w_ hs_ => hR0 (k + 1) (by omega) (by omega) ac_ w_ (hs_.weaken (.cons rfl (.cons rfl (.cons rfl (.cons rfl (.cons rfl (.cons rfl (.nil))))))) (.consE (show mapE g15 (putI (mapTo (degs m es) es k) (min ((degs m es).getD (((es.getD k (0, 0)).1).toNat) 0) ((degs m es).getD (((es.getD k (0, 0)).2).toNat) 0)) (max ((degs m es).getD (((es.getD k (0, 0)).1).toNat) 0) ((degs m es).getD (((es.getD k (0, 0)).2).toNat) 0)) ((valI (mapTo (degs m es) es k) (min ((degs m es).getD (((es.getD k (0, 0)).1).toNat) 0) ((degs m es).getD (((es.getD k (0, 0)).2).toNat) 0)) (max ((degs m es).getD (((es.getD k (0, 0)).1).toNat) 0) ((degs m es).getD (((es.getD k (0, 0)).2).toNat) 0))) + 1)) = mapE g15 (mapTo (degs m es) es (k + 1)) by rw [mapTo_succ (by omega)] <;> rfl) (.head) (.cons (.tail .head) (.cons (.tail .head) (.nil)))))
      ·
        refine go_r rfl rfl rfl rfl (or_mapEntry uM63 eqE65 tI3 (M := mapTo (degs m es) es k) (k1 := min ((degs m es).getD (((es.getD k (0, 0)).1).toNat) 0) ((degs m es).getD (((es.getD k (0, 0)).2).toNat) 0)) (k2 := max ((degs m es).getD (((es.getD k (0, 0)).1).toNat) 0) ((degs m es).getD (((es.getD k (0, 0)).2).toNat) 0)) (.tail .head) rfl rfl) (kt0 rfl ?_)
        refine gk (.cons (.tail .head) (.cons (.tail .head) (.cons (.tail .head) (.nil)))) ?_
        refine wg_takep (i := 15) rfl (ov_extract rfl rfl) rfl rfl rfl (by kernel_rfl) (by kernel_rfl) (by kernel_rfl) rfl ?_
        refine wg_one (i := 12) (by kernel_rfl) ?_
        refine go_r rfl rfl rfl rfl (OpV.opR (ov_lookupA uM63 eqE65 tI3 (M := mapTo (degs m es) es k) (k1 := min ((degs m es).getD (((es.getD k (0, 0)).1).toNat) 0) ((degs m es).getD (((es.getD k (0, 0)).2).toNat) 0)) (k2 := max ((degs m es).getD (((es.getD k (0, 0)).1).toNat) 0) ((degs m es).getD (((es.getD k (0, 0)).2).toNat) 0)) (List.Mem.head _) rfl rfl)) (kt0 rfl ?_)
        refine gk (.cons (.tail .head) (.cons (.tail .head) (.cons (.tail .head) (.nil)))) ?_
        refine wg_takep (i := 13) rfl (ov_add (r := (valI (mapTo (degs m es) es k) (min ((degs m es).getD (((es.getD k (0, 0)).1).toNat) 0) ((degs m es).getD (((es.getD k (0, 0)).2).toNat) 0)) (max ((degs m es).getD (((es.getD k (0, 0)).1).toNat) 0) ((degs m es).getD (((es.getD k (0, 0)).2).toNat) 0))) + 1) rfl rfl rfl (by omega)) rfl rfl rfl (by kernel_rfl) (by kernel_rfl) (by kernel_rfl) rfl ?_
        refine wg_one (i := 16) (by kernel_rfl) ?_
        refine go_r0 rfl rfl rfl rfl (or_entryStore (M := mapTo (degs m es) es k) (k1 := min ((degs m es).getD (((es.getD k (0, 0)).1).toNat) 0) ((degs m es).getD (((es.getD k (0, 0)).2).toNat) 0)) (k2 := max ((degs m es).getD (((es.getD k (0, 0)).1).toNat) 0) ((degs m es).getD (((es.getD k (0, 0)).2).toNat) 0)) (v := (valI (mapTo (degs m es) es k) (min ((degs m es).getD (((es.getD k (0, 0)).1).toNat) 0) ((degs m es).getD (((es.getD k (0, 0)).2).toNat) 0)) (max ((degs m es).getD (((es.getD k (0, 0)).1).toNat) 0) ((degs m es).getD (((es.getD k (0, 0)).2).toNat) 0))) + 1) (.head) rfl rfl rfl) (kn0 ?_)
        refine gk (.cons (.tail .head) (.cons (.tail .head) (.cons (.tail .head) (.nil)))) ?_
        refine wg_done (by kernel_rfl) ?_
        refine ce_block ?_
        refine ce_then ?_
        refine cw_region ?_
        refine wl_v (ov_add (r := ((k + 1 : Nat) : Int)) rfl rfl rfl (by omega)) rfl rfl rfl ?_
        refine wl_v (ov_move rfl) rfl rfl rfl ?_
        refine wl_nil ?_
        exact fun ac_ w_ hs_ => hR0 (k + 1) (by omega) (by omega) ac_ w_ (hs_.weaken (.cons rfl (.cons rfl (.cons rfl (.cons rfl (.cons rfl (.cons rfl (.nil))))))) (.consE (show mapE g15 (putI (mapTo (degs m es) es k) (min ((degs m es).getD (((es.getD k (0, 0)).1).toNat) 0) ((degs m es).getD (((es.getD k (0, 0)).2).toNat) 0)) (max ((degs m es).getD (((es.getD k (0, 0)).1).toNat) 0) ((degs m es).getD (((es.getD k (0, 0)).2).toNat) 0)) ((valI (mapTo (degs m es) es k) (min ((degs m es).getD (((es.getD k (0, 0)).1).toNat) 0) ((degs m es).getD (((es.getD k (0, 0)).2).toNat) 0)) (max ((degs m es).getD (((es.getD k (0, 0)).1).toNat) 0) ((degs m es).getD (((es.getD k (0, 0)).2).toNat) 0))) + 1)) = mapE g15 (mapTo (degs m es) es (k + 1)) by rw [mapTo_succ (by omega)] <;> rfl) (.head) (.cons (.tail .head) (.cons (.tail .head) (.nil)))))
    ·
      have hke : k = es.length := by omega
      refine ct_keep (L' := [(2, .slice none (0) (0)), (3, .slice (some ⟨g_14, 0, none⟩) (m) (m)), (4, .map (some g15)), (17, .slice A (es.length) (c)), (18, .int .i64 (((es.length : Nat) : Int))), (19, .int .i64 (((k : Nat) : Int))), (20, .bool false)]) (.cons rfl (.cons rfl (.cons rfl (.cons rfl (.cons rfl (.cons rfl (.cons rfl (.nil)))))))) (.consE (show mapE g15 (mapTo (degs m es) es k) = mapE g15 (mapTo (degs m es) es es.length) by rw [hke]) (.head) (.cons (.head) (.cons (.head) (.nil)))) ?_
      refine wl_nil ?_
      refine ce_then ?_
      refine cw_seq ?_
      refine cw_false rfl ?_
      refine cw_exit ?_
      refine ce_then_exit ?_
      refine ce_then_exit ?_
      refine ce_hit ?_
      refine ce_then ?_
      refine cw_seq ?_
      refine cw_region ?_
      refine wl_v (ov_assign rfl) rfl rfl rfl ?_
      refine wl_nil ?_
      refine ce_then ?_
      refine cw_seq ?_
      refine cw_seq ?_
      refine ct_none fJ 32 3 ?_
      refine cw_region ?_
      refine wl_v (ov_move rfl) rfl rfl rfl ?_
      refine wl_r (or_range uM63 (M := mapTo (degs m es) es es.length) (List.Mem.tail _ (List.Mem.head _)) rfl) rfl rfl (kt1 rfl (fun g41 => ?_))
      refine wl_nil ?_
      refine ce_then ?_
      refine cw_block ?_
      refine cw_loop3 (fun (sn : List Nat) (A7 : Option Addr) (c7 : Nat) => [(2, .slice none (0) (0)), (41, .pointer (some ⟨g41, 0, none⟩)), (7, .slice A7 (sn.length) (c7))]) (fun (sn : List Nat) (A7 : Option Addr) (c7 : Nat) => [iterE g41 g15 ((mapTo (degs m es) es es.length).length) sn, row 32 3 A7 (sn.length) (c7) (cells fJ (sn.map fun i => (mapTo (degs m es) es es.length).getD i (0, 0, 0))), mapE g15 (mapTo (degs m es) es es.length), row 3 1 (some ⟨g_14, 0, none⟩) (m) (m) (cells fI (degs m es)), blk g1 [.int .i64 (((m : Nat) : Int)), .slice A (es.length) (c)] 25]) (fun (sn : List Nat) (A7 : Option Addr) (c7 : Nat) => Seen (mapTo (degs m es) es es.length) sn ∧ sn.length ≤ c7) (fun (sn : List Nat) (A7 : Option Addr) (c7 : Nat) => (mapTo (degs m es) es es.length).length - sn.length) ([]) none 0 ⟨Seen.nil _, Nat.le_refl _⟩ (.cons rfl (.cons rfl (.cons rfl (.nil)))) (.consE (show iterE g41 g15 ((mapTo (degs m es) es es.length).length) ([]) = iterE g41 g15 ((mapTo (degs m es) es es.length).length) ([]) by rfl) (.head) (.consE (show row 32 3 none (0) (0) (cells fJ ([])) = row 32 3 none (([]).length) (0) (cells fJ (([]).map fun i => (mapTo (degs m es) es es.length).getD i (0, 0, 0))) by rfl) (.head) (.cons (.head) (.cons (.head) (.cons (.head) (.nil)))))) ?_
      intro R1 sn A7 c7 hk1 hR1
      obtain ⟨hq1, hq2⟩ := hk1
      have hql := hq1.le
      have hml := mapTo_len (degs m es) es es.length
      refine cw_seq ?_
      refine cw_region ?_
      refine wl_r (or_next (M := mapTo (degs m es) es es.length) (S := sn) hq1 (.head) (List.Mem.tail _ (List.Mem.head _)) rfl) rfl rfl (kt1p rfl (fun i_42 hj42 => ?_))
      rcases Nat.lt_or_ge sn.length (mapTo (degs m es) es es.length).length with c42 | c42
      ·
        have hi42 := hj42 c42
        rw [show nxI (mapTo (degs m es) es es.length) sn i_42 = .tuple #[.bool true, .agg #[.int .i64 (((mapTo (degs m es) es es.length).getD i_42 (0, 0, 0)).1), .int .i64 (((mapTo (degs m es) es es.length).getD i_42 (0, 0, 0)).2.1)], .int .i64 (((mapTo (degs m es) es es.length).getD i_42 (0, 0, 0)).2.2)] from if_pos c42, show nxS (mapTo (degs m es) es es.length) sn i_42 = sn ++ [i_42] from if_pos c42]
        refine wl_v (ov_extract rfl rfl) rfl rfl rfl ?_
        refine wl_nil ?_
        refine ce_then ?_
        refine cw_seq ?_
        refine cw_true rfl ?_
        refine cw_skip ?_
        refine ce_then ?_
        refine cw_block ?_
        refine cw_seq ?_
        refine cw_region ?_
        refine wl_v (ov_entry (i := i_42) (S := sn) (M := (mapTo (degs m es) es es.length)) hi42.1 (List.Mem.head _) (List.Mem.tail _ (List.Mem.tail _ (List.Mem.head _))) rfl) rfl rfl rfl ?_
        refine wl_v (ov_extract rfl rfl) rfl rfl rfl ?_
        refine wl_v (ov_extract rfl rfl) rfl rfl rfl ?_
        refine wl_r (or_alloc tI65 rfl) rfl rfl (kt1 rfl (fun g8 => ?_))
        refine wl_r0 (or_store_blk (vs := [.int .i64 (((mapTo (degs m es) es es.length).getD i_42 (0, 0, 0)).1), .int .i64 (((mapTo (degs m es) es es.length).getD i_42 (0, 0, 0)).2.1)]) (cs' := [.int .i64 (((mapTo (degs m es) es es.length).getD i_42 (0, 0, 0)).1), .int .i64 (((mapTo (degs m es) es es.length).getD i_42 (0, 0, 0)).2.1)]) (.head) tI65 rfl rfl rfl rfl (Nat.le_of_ble_eq_true rfl) rfl) rfl rfl (kn0 ?_)
        refine wl_v (ov_assign rfl) rfl rfl rfl ?_
        refine wl_nil ?_
        refine ce_then ?_
        refine cw_region ?_
        refine wl_v (ov_move rfl) rfl rfl rfl ?_
        refine wl_v (ov_fieldAddr fI65_0 some_lit rfl) rfl rfl rfl ?_
        refine wl_v (ov_load tI3 (holds_blk (List.Mem.head _)) rfl rfl) rfl rfl rfl ?_
        refine wl_v (ov_fieldAddr fI65_1 some_lit rfl) rfl rfl rfl ?_
        refine wl_v (ov_load tI3 (holds_blk (List.Mem.head _)) rfl rfl) rfl rfl rfl ?_
        refine wl_v (ov_move rfl) rfl rfl rfl ?_
        refine wl_v (ov_build (is := [0, 1, 2]) (vs := [.int .i64 (((mapTo (degs m es) es es.length).getD i_42 (0, 0, 0)).1), .int .i64 (((mapTo (degs m es) es es.length).getD i_42 (0, 0, 0)).2.1), .int .i64 (((mapTo (degs m es) es es.length).getD i_42 (0, 0, 0)).2.2)]) (v := .agg #[.int .i64 (((mapTo (degs m es) es es.length).getD i_42 (0, 0, 0)).1), .int .i64 (((mapTo (degs m es) es es.length).getD i_42 (0, 0, 0)).2.1), .int .i64 (((mapTo (degs m es) es es.length).getD i_42 (0, 0, 0)).2.2)]) rfl rfl (fun _ => by kernel_rfl)) rfl rfl rfl ?_
        refine wl_r (or_buildSlice (e := 32) (size := 3) (is := [0]) (vs := [.agg #[.int .i64 (((mapTo (degs m es) es es.length).getD i_42 (0, 0, 0)).1), .int .i64 (((mapTo (degs m es) es es.length).getD i_42 (0, 0, 0)).2.1), .int .i64 (((mapTo (degs m es) es es.length).getD i_42 (0, 0, 0)).2.2)]]) (cs := cells fJ ([(((mapTo (degs m es) es es.length).getD i_42 (0, 0, 0)).1, ((mapTo (degs m es) es es.length).getD i_42 (0, 0, 0)).2.1, ((mapTo (degs m es) es es.length).getD i_42 (0, 0, 0)).2.2)])) rfl rfl rfl (by decide) (fun _ => by kernel_rfl)) rfl rfl (kt1 rfl (fun g54 => ?_))
        refine wl_r (or_append (c2 := 1) sI27 tI32 rfl (by decide) rfl rfl (.tail (.tail (.tail .head))) (holds_row (List.Mem.head _)) (by rw [cells_length fJ_len]; try simp) (one_cells fJ_one _) cells_append (by omega) (by omega)) rfl rfl (kt2p rfl (fun A55 c55 h55 => ?_))
        refine wl_v (ov_assign rfl) rfl rfl rfl ?_
        refine wl_nil ?_
        refine ce_block ?_
        exact fun ac_ w_ hs_ => hR1 (sn ++ [i_42]) A55 c55 ⟨hq1.snoc hi42, by rw [List.length_append]; exact h55⟩ (by rw [List.length_append]; show _ - (sn.length + 1) < _; omega) ac_ w_ (hs_.weaken (.cons rfl (.cons rfl (.cons (congrArg (fun z => some (Value.slice A55 z c55)) (show (sn.length + 1) = ((sn ++ [i_42]).length) from (by rw [List.length_append]; rfl))) (.nil)))) (.cons (.tail (.tail (.tail .head))) (.consE (show row 32 3 A55 (sn.length + 1) (c55) (cells fJ ((sn.map fun i => (mapTo (degs m es) es es.length).getD i (0, 0, 0)) ++ ([(((mapTo (degs m es) es es.length).getD i_42 (0, 0, 0)).1, ((mapTo (degs m es) es es.length).getD i_42 (0, 0, 0)).2.1, ((mapTo (degs m es) es es.length).getD i_42 (0, 0, 0)).2.2)]))) = row 32 3 A55 ((sn ++ [i_42]).length) (c55) (cells fJ ((sn ++ [i_42]).map fun i => (mapTo (degs m es) es es.length).getD i (0, 0, 0))) by rw [List.map_append, List.length_append]; rfl) (.head) (.cons (.tail (.tail .head)) (.cons (.tail (.tail .head)) (.cons (.tail (.tail .head)) (.nil)))))))
      ·
        have hsp := hq1.all c42
        rw [show nxI (mapTo (degs m es) es es.length) sn i_42 = .tuple #[.bool false] from if_neg (by omega), show nxS (mapTo (degs m es) es es.length) sn i_42 = sn from if_neg (by omega)]
        refine wl_v (ov_extract rfl rfl) rfl rfl rfl ?_
        refine wl_nil ?_
        refine ce_then ?_
        refine cw_seq ?_
        refine cw_false rfl ?_
        refine cw_exit ?_
        refine ce_then_exit ?_
        refine ce_then_exit ?_
        refine ce_hit ?_
        refine ce_then ?_
        refine cw_seq ?_
        refine cw_region ?_
        refine wl_v (ov_move rfl) rfl rfl rfl ?_
        refine wl_r (or_call (fv := []) (vs := [.slice A7 (sn.length) (c7), .func (.func 36) #[] #[]]) (cs := []) en35 rfl rfl (call_o (.cons (.tail .head) (.cons (.head) (.cons (.head) (.cons (.head) (.cons (.head) (.nil)))))) (fun w hw => sortJ_c w _ _ _ A7 sn.length c7 c7 (sn.map fun i => (mapTo (degs m es) es es.length).getD i (0, 0, 0)) (by omega) (List.length_map _) hw))) rfl rfl (kt1p rfl (fun ys_57 h_57 => ?_))
        have hy := joint_eq hg hm hsp h_57.1
        have hyl : sn.length = (jointL m es).length := by rw [← hy, h_57.2]
        refine wl_nil ?_
        refine ce_then ?_
        refine cw_seq ?_
        refine cw_region ?_
        refine wl_v (ov_move rfl) rfl rfl rfl ?_
        refine wl_r (or_call (fv := []) (vs := [.slice A7 (sn.length) (c7)]) (cs := []) en39 rfl rfl (call_v (fun w hw => clipJ_c w A7 sn.length c7 ys_57 ((holds_row (List.Mem.head _)) w hw) h_57.2 hq2))) rfl rfl (kt0 rfl ?_)
        refine wl_v (ov_assign rfl) rfl rfl rfl ?_
        refine wl_nil ?_
        refine ce_then ?_
        refine cw_ret ?_
        refine ce_results (v := .slice A7 (sn.length) (sn.length)) (res1 rfl (rv_t rfl)) (fun w' hw => ?_)
        exact ⟨A7, (jointV ((m : Nat) : Int) es).length, c7, (Nat.le_refl _), (by rw [hv, ← hyl]), ((.consE (show row 32 3 A7 (sn.length) (c7) (cells fJ ys_57) = row 32 3 A7 ((jointV ((m : Nat) : Int) es).length) (c7) (cells fJ (jointV ((m : Nat) : Int) es)) by rw [hv, ← hy, ← h_57.2]) (.head) (.nil) : Keep _ _).ss hw).to_new⟩
  ·
    refine wl_v (ov_not rfl) rfl rfl rfl ?_
    refine wl_nil ?_
    refine ce_then ?_
    refine cw_true rfl ?_
    refine cw_seq ?_
    have hv : jointV N es = [] := if_neg c11
    refine ct_none fJ 32 3 ?_
    refine cw_region ?_
    refine wl_v (ov_assign rfl) rfl rfl rfl ?_
    refine wl_nil ?_
    refine ce_then ?_
    refine cw_ret ?_
    refine ce_then_ret ?_
    refine ce_results (v := .slice none (0) (0)) (res1 rfl (rv_t rfl)) (fun w' hw => ?_)
    exact ⟨none, 0, 0, (by rw [hv]; exact Nat.le_refl _), (by rw [hv] <;> rfl), ((.consE (show row 32 3 none (0) (0) (cells fJ ([])) = row 32 3 none ((jointV N es).length) (0) (cells fJ (jointV N es)) by rw [hv] <;> rfl) (.head) (.nil) : Keep _ _).ss hw).to_new⟩
set_option maxRecDepth 100000 in
theorem DrawJointOf_c (w : World) (Ar : Option Addr) (nr : Nat) (cr : Nat) (bs : List (Nat)) (hAr : At w Ar (cells fY bs)) (eAr : bs.length = nr) (lAr : nr ≤ cr) (hb : ∀ x ∈ bs, x < 256) : Calls Try.prog 8 #[.slice Ar (nr) (cr)] w (Ret fun rv w' => ∃ N A2 c2 es, (es.length ≤ c2 ∧ es.length ≤ 100 ∧ -1 ≤ N ∧ N ≤ 8) ∧ rv = .agg #[.int .i64 (N), .slice A2 (es.length) (c2)] ∧ New w w' [row 65 2 A2 (es.length) (c2) (cells fE es)]) := by
  have oAr := hAr.atB
  subst eAr
  refine fn_enter (args := [.slice Ar (bs.length) (cr)]) Try.func8 rfl Try.ntmps8 rfl (SS.start w) ?_
  refine cw_seq ?_
  refine cw_region ?_
  refine wl_r (or_alloc tI25 rfl) rfl rfl (kt1 rfl (fun g2 => ?_))
  refine wl_nil ?_
  refine ce_then ?_
  refine cw_seq ?_
  refine cw_region ?_
  refine wl_v (ov_move rfl) rfl rfl rfl ?_
  refine wl_r (or_call (fv := []) (vs := [.slice Ar (bs.length) (cr)]) (cs := []) en32 rfl rfl (call_x2 (fun w hw => newReader_c w Ar bs.length cr bs ((holds_old oAr) w hw) rfl lAr))) rfl rfl (kt2p rfl (fun g_4 n2_4 h_4 => ?_))
  refine wl_r (or_call (fv := []) (vs := [elp (some ⟨g_4, 0, none⟩) (0)]) (cs := []) en31 rfl rfl (call_o (.cons (.head) (.cons (.head) (.nil))) (fun w hw => someGraph_c w _ _ _ g_4 Ar n2_4 cr (bs.take n2_4) 0 (holds_takeC (k := n2_4) fY_len (holds_old oAr)) (by rw [List.length_take]; omega) (by omega) ⟨by omega, fun x hx => hb x (List.mem_of_mem_take hx), by omega⟩ hw))) rfl rfl (kt5p rfl (fun N_5 A2_5 c2_5 es_5 q_5 h_5 => ?_))
  refine wl_r0 (or_store_blk (vs := [.int .i64 (N_5), .slice A2_5 (es_5.length) (c2_5)]) (cs' := [.int .i64 (N_5), .slice A2_5 (es_5.length) (c2_5)]) (.tail (.tail .head)) tI25 rfl rfl rfl rfl (Nat.le_of_ble_eq_true rfl) rfl) rfl rfl (kn0 ?_)
  refine wl_nil ?_
  refine ce_then ?_
  refine cw_ret ?_
  refine ce_results (v := .agg #[.int .i64 (N_5), .slice A2_5 (es_5.length) (c2_5)]) (res1 rfl (rv_c rfl tI25 rfl (List.Mem.head _))) (fun w' hw => ?_)
  exact ⟨N_5, A2_5, c2_5, es_5, h_5.1, rfl, ((.cons (.tail .head) (.nil) : Keep _ _).ss hw).to_new⟩
end Go.Proofs.Ytkkllkkjdbpjpaa.W48
