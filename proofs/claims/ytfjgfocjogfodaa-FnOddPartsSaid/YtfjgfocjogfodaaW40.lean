/- Walks of functions of the given program: each returns what its Lean function says and leaves the memory that was there as it was. Conditions: those of each theorem. -/
import Derived.Test.YtfjgfocjogfodaaSm
import Derived.Test.YtfjgfocjogfodaaProg
import Derived.Test.YtfjgfocjogfodaaPl
import Derived.Test.YtfjgfocjogfodaaPo
import Derived.Test.YtfjgfocjogfodaaPd
import Derived.Test.YtfjgfocjogfodaaPe
import Derived.Test.YtfjgfocjogfodaaPh
import Derived.Test.YtfjgfocjogfodaaPm
import Derived.Test.YtfjgfocjogfodaaPc
import Derived.Test.YtfjgfocjogfodaaPs
import Derived.Test.YtfjgfocjogfodaaPt
import Derived.Test.YtfjgfocjogfodaaPu
import Derived.Test.YtfjgfocjogfodaaPv
import Derived.Test.YtfjgfocjogfodaaPw
import Derived.Test.YtfjgfocjogfodaaPx
import Derived.Test.YtfjgfocjogfodaaT
import Derived.Test.YtfjgfocjogfodaaW5
import Derived.Test.YtfjgfocjogfodaaW11
import Derived.Test.YtfjgfocjogfodaaW13
import Derived.Test.YtfjgfocjogfodaaW24
import Derived.KernelRfl
namespace Go.Proofs.Ytfjgfocjogfodaa.W40
open Go.Sx Go.RowKit Go.Proofs.Ytfjgfocjogfodaa.T Go.Proofs.Ytfjgfocjogfodaa.W5 Go.Proofs.Ytfjgfocjogfodaa.W11 Go.Proofs.Ytfjgfocjogfodaa.W13 Go.Proofs.Ytfjgfocjogfodaa.W24
open Go.Plain
set_option linter.unusedVariables false
set_option maxRecDepth 100000 in
theorem match1_c (w : World) (u : Int) (v : Int) (g1 : Nat) (a : Int) (b : Int) (hg1 : At w (some ⟨g1, 0, none⟩) [.int .i64 (a), .int .i64 (b)]) : Calls Try.prog 95 #[.agg #[.int .i64 (u), .int .i64 (v)], elp (some ⟨g1, 0, none⟩) (0)] w (Ret fun rv w' => rv = .bool (meets (a, b) (u, v)) ∧ New w w' []) := by
  have og1 := hg1.atB
  refine fn_enter (args := [.agg #[.int .i64 (u), .int .i64 (v)], elp (some ⟨g1, 0, none⟩) (0)]) Try.func95 rfl Try.ntmps95 rfl (SS.start w) ?_
  refine cw_seq ?_
  refine cw_region ?_
  refine wl_r (or_box rfl rfl) rfl rfl (kt1 rfl (fun g2 => ?_))
  refine wl_v (ov_assign rfl) rfl rfl rfl ?_
  refine wl_nil ?_
  refine ce_then ?_
  refine cw_seq ?_
  refine cw_region ?_
  refine wl_v (ov_fieldAddr fI43_0 some_lit rfl) rfl rfl rfl ?_
  refine wl_v (ov_load tI3 (holds_blk (List.Mem.head _)) rfl rfl) rfl rfl rfl ?_
  refine wl_v (ov_fieldAddr fI43_0 some_lit rfl) rfl rfl rfl ?_
  refine wl_v (ov_load tI3 (holds_old og1) rfl rfl) rfl rfl rfl ?_
  refine wl_if (ov_eql rfl rfl) rfl rfl rfl (fun c8 => ?_) (fun c8 => ?_)
  ·
    refine wl_v (ov_move rfl) rfl rfl rfl ?_
    refine wl_not rfl rfl rfl rfl rfl rfl ?_
    refine wl_not rfl rfl rfl rfl rfl rfl ?_
    refine wl_not rfl rfl rfl rfl rfl rfl ?_
    refine wl_not rfl rfl rfl rfl rfl rfl ?_
    refine wl_not rfl rfl rfl rfl rfl rfl ?_
    refine wl_v (ov_pick_t rfl rfl) rfl rfl rfl ?_
    refine wl_v (ov_move rfl) rfl rfl rfl ?_
    refine wl_not rfl rfl rfl rfl rfl rfl ?_
    refine wl_not rfl rfl rfl rfl rfl rfl ?_
    refine wl_not rfl rfl rfl rfl rfl rfl ?_
    refine wl_not rfl rfl rfl rfl rfl rfl ?_
    refine wl_not rfl rfl rfl rfl rfl rfl ?_
    refine wl_v (ov_pick_t rfl rfl) rfl rfl rfl ?_
    refine wl_v (ov_move rfl) rfl rfl rfl ?_
    refine wl_not rfl rfl rfl rfl rfl rfl ?_
    refine wl_not rfl rfl rfl rfl rfl rfl ?_
    refine wl_not rfl rfl rfl rfl rfl rfl ?_
    refine wl_not rfl rfl rfl rfl rfl rfl ?_
    refine wl_not rfl rfl rfl rfl rfl rfl ?_
    refine wl_v (ov_pick_t rfl rfl) rfl rfl rfl ?_
    refine wl_v (ov_assign rfl) rfl rfl rfl ?_
    refine wl_nil ?_
    refine ce_then ?_
    refine cw_ret ?_
    refine ce_results (v := .bool true) (res1 rfl (rv_t rfl)) (fun w' hw => ?_)
    exact ⟨(by rw [show meets (a, b) (u, v) = true from decide_eq_true (.inl c8)]), (Keep.nil.ss hw).to_new⟩
  ·
    refine wl_v (ov_move rfl) rfl rfl rfl ?_
    refine wl_go rfl rfl ?_
    refine wl_v (ov_fieldAddr fI43_0 some_lit rfl) rfl rfl rfl ?_
    refine wl_go rfl rfl ?_
    refine wl_v (ov_load tI3 (holds_blk (List.Mem.head _)) rfl rfl) rfl rfl rfl ?_
    refine wl_go rfl rfl ?_
    refine wl_v (ov_fieldAddr fI43_1 some_lit rfl) rfl rfl rfl ?_
    refine wl_go rfl rfl ?_
    refine wl_v (ov_load tI3 (holds_old og1) rfl rfl) rfl rfl rfl ?_
    refine wl_go rfl rfl ?_
    refine wl_if (ov_eql rfl rfl) rfl rfl rfl (fun c14 => ?_) (fun c14 => ?_)
    ·
      refine wl_v (ov_pick_f rfl rfl) rfl rfl rfl ?_
      refine wl_v (ov_move rfl) rfl rfl rfl ?_
      refine wl_not rfl rfl rfl rfl rfl rfl ?_
      refine wl_not rfl rfl rfl rfl rfl rfl ?_
      refine wl_not rfl rfl rfl rfl rfl rfl ?_
      refine wl_not rfl rfl rfl rfl rfl rfl ?_
      refine wl_not rfl rfl rfl rfl rfl rfl ?_
      refine wl_v (ov_pick_t rfl rfl) rfl rfl rfl ?_
      refine wl_v (ov_move rfl) rfl rfl rfl ?_
      refine wl_not rfl rfl rfl rfl rfl rfl ?_
      refine wl_not rfl rfl rfl rfl rfl rfl ?_
      refine wl_not rfl rfl rfl rfl rfl rfl ?_
      refine wl_not rfl rfl rfl rfl rfl rfl ?_
      refine wl_not rfl rfl rfl rfl rfl rfl ?_
      refine wl_v (ov_pick_t rfl rfl) rfl rfl rfl ?_
      refine wl_v (ov_assign rfl) rfl rfl rfl ?_
      refine wl_nil ?_
      refine ce_then ?_
      refine cw_ret ?_
      refine ce_results (v := .bool true) (res1 rfl (rv_t rfl)) (fun w' hw => ?_)
      exact ⟨(by rw [show meets (a, b) (u, v) = true from decide_eq_true (.inr (.inl c14))]), (Keep.nil.ss hw).to_new⟩
    ·
      refine wl_v (ov_pick_f rfl rfl) rfl rfl rfl ?_
      refine wl_v (ov_move rfl) rfl rfl rfl ?_
      refine wl_go rfl rfl ?_
      refine wl_v (ov_fieldAddr fI43_1 some_lit rfl) rfl rfl rfl ?_
      refine wl_go rfl rfl ?_
      refine wl_v (ov_load tI3 (holds_blk (List.Mem.head _)) rfl rfl) rfl rfl rfl ?_
      refine wl_go rfl rfl ?_
      refine wl_v (ov_fieldAddr fI43_0 some_lit rfl) rfl rfl rfl ?_
      refine wl_go rfl rfl ?_
      refine wl_v (ov_load tI3 (holds_old og1) rfl rfl) rfl rfl rfl ?_
      refine wl_go rfl rfl ?_
      refine wl_if (ov_eql rfl rfl) rfl rfl rfl (fun c21 => ?_) (fun c21 => ?_)
      ·
        refine wl_v (ov_pick_f rfl rfl) rfl rfl rfl ?_
        refine wl_v (ov_move rfl) rfl rfl rfl ?_
        refine wl_not rfl rfl rfl rfl rfl rfl ?_
        refine wl_not rfl rfl rfl rfl rfl rfl ?_
        refine wl_not rfl rfl rfl rfl rfl rfl ?_
        refine wl_not rfl rfl rfl rfl rfl rfl ?_
        refine wl_not rfl rfl rfl rfl rfl rfl ?_
        refine wl_v (ov_pick_t rfl rfl) rfl rfl rfl ?_
        refine wl_v (ov_assign rfl) rfl rfl rfl ?_
        refine wl_nil ?_
        refine ce_then ?_
        refine cw_ret ?_
        refine ce_results (v := .bool true) (res1 rfl (rv_t rfl)) (fun w' hw => ?_)
        exact ⟨(by rw [show meets (a, b) (u, v) = true from decide_eq_true (.inr (.inr (.inl c21)))]), (Keep.nil.ss hw).to_new⟩
      ·
        refine wl_v (ov_pick_f rfl rfl) rfl rfl rfl ?_
        refine wl_v (ov_move rfl) rfl rfl rfl ?_
        refine wl_go rfl rfl ?_
        refine wl_v (ov_fieldAddr fI43_1 some_lit rfl) rfl rfl rfl ?_
        refine wl_go rfl rfl ?_
        refine wl_v (ov_load tI3 (holds_blk (List.Mem.head _)) rfl rfl) rfl rfl rfl ?_
        refine wl_go rfl rfl ?_
        refine wl_v (ov_fieldAddr fI43_1 some_lit rfl) rfl rfl rfl ?_
        refine wl_go rfl rfl ?_
        refine wl_v (ov_load tI3 (holds_old og1) rfl rfl) rfl rfl rfl ?_
        refine wl_go rfl rfl ?_
        refine wl_if (ov_eql rfl rfl) rfl rfl rfl (fun c28 => ?_) (fun c28 => ?_)
        ·
          refine wl_v (ov_pick_f rfl rfl) rfl rfl rfl ?_
          refine wl_v (ov_assign rfl) rfl rfl rfl ?_
          refine wl_nil ?_
          refine ce_then ?_
          refine cw_ret ?_
          refine ce_results (v := .bool true) (res1 rfl (rv_t rfl)) (fun w' hw => ?_)
          exact ⟨(by rw [show meets (a, b) (u, v) = true from decide_eq_true (.inr (.inr (.inr c28)))]), (Keep.nil.ss hw).to_new⟩
        ·
          refine wl_v (ov_pick_f rfl rfl) rfl rfl rfl ?_
          refine wl_v (ov_assign rfl) rfl rfl rfl ?_
          refine wl_nil ?_
          refine ce_then ?_
          refine cw_ret ?_
          refine ce_results (v := .bool false) (res1 rfl (rv_t rfl)) (fun w' hw => ?_)
          exact ⟨(by rw [show meets (a, b) (u, v) = false from decide_eq_false (fun h => by rcases h with h | h | h | h; exact c8 h; exact c14 h; exact c21 h; exact c28 h)]), (Keep.nil.ss hw).to_new⟩
set_option maxRecDepth 100000 in
theorem match_c (w : World) (A : Option Addr) (n : Nat) (c : Nat) (es : List (Int × Int)) (hA : At w A (cells fE es)) (eA : es.length = n) (lA : n ≤ c) (hs : es.length ≤ 1000) : Calls Try.prog 42 #[.slice A (n) (c)] w (Ret fun rv w' => rv = .int .i64 (((mm es : Nat) : Int)) ∧ New w w' []) := by
  have oA := hA.atB
  subst eA
  have hm20 := mm_len ((es.drop 1).filter fun x => !meets (es.getD 0 (0, 0)) x)
  have hf20 := List.length_filter_le (fun x => !meets (es.getD 0 (0, 0)) x) (es.drop 1)
  have hd20 : (es.drop 1).length = es.length - 1 := List.length_drop
  refine fn_enter (args := [.slice A (es.length) (c)]) Try.func42 rfl Try.ntmps42 rfl (SS.start w) ?_
  refine cw_seq ?_
  refine cw_region ?_
  refine wl_v (ov_assign rfl) rfl rfl rfl ?_
  refine wl_nil ?_
  refine ce_then ?_
  refine cw_seq ?_
  refine cw_seq ?_
  refine cw_region ?_
  refine wl_v (ov_move rfl) rfl rfl rfl ?_
  refine wl_v (ov_len (sliceI_spec sI23) rfl) rfl rfl rfl ?_
  refine wl_if (ov_eql rfl rfl) rfl rfl rfl (fun c7 => ?_) (fun c7 => ?_)
  ·
    refine wl_nil ?_
    refine ce_then ?_
    refine cw_true rfl ?_
    refine cw_seq ?_
    refine cw_region ?_
    refine wl_v (ov_assign rfl) rfl rfl rfl ?_
    refine wl_nil ?_
    refine ce_then ?_
    refine cw_ret ?_
    refine ce_then_ret ?_
    refine ce_results (v := .int .i64 (0)) (res1 rfl (rv_t rfl)) (fun w' hw => ?_)
    exact ⟨(by rw [List.eq_nil_of_length_eq_zero (l := es) (by omega), mm_nil]; rfl), (Keep.nil.ss hw).to_new⟩
  ·
    refine wl_nil ?_
    refine ce_then ?_
    refine cw_false rfl ?_
    refine cw_skip ?_
    refine ce_then ?_
    refine cw_seq ?_
    refine cw_region ?_
    refine wl_v (ov_move rfl) rfl rfl rfl ?_
    refine wl_v (ov_index (k := 0) (c := c) sI23 tI43 rfl rfl (some_holds (q := 0 * 2) (holds_old oA) (by rw [cells_length fE_len]; have hlt : 0 < es.length := (by omega); omega)) (show 0 < es.length from (by omega))) rfl rfl rfl ?_
    refine wl_v (ov_loadAgg (vs := [.int .i64 ((es.getD 0 (0, 0)).1), .int .i64 ((es.getD 0 (0, 0)).2)]) tI43 (holds_old oA) rfl (some_holds (q := 0 * 2) (holds_old oA) (by rw [cells_length fE_len]; have hlt : 0 < es.length := (by omega); omega)) (cells_elem fE_len (0, 0) (show 0 < es.length from (by omega))) rfl) rfl rfl rfl ?_
    refine wl_r (or_alloc tI43 rfl) rfl rfl (kt1 rfl (fun g3 => ?_))
    refine wl_r0 (or_store_blk (vs := [.int .i64 ((es.getD 0 (0, 0)).1), .int .i64 ((es.getD 0 (0, 0)).2)]) (cs' := [.int .i64 ((es.getD 0 (0, 0)).1), .int .i64 ((es.getD 0 (0, 0)).2)]) (.head) tI43 rfl rfl rfl rfl (Nat.le_of_ble_eq_true rfl) rfl) rfl rfl (kn0 ?_)
    refine wl_nil ?_
    refine ce_then ?_
    refine cw_seq ?_
    refine cw_region ?_
    refine wl_v (ov_move rfl) rfl rfl rfl ?_
    refine wl_v (ov_slice_l (l := 1) sI23 tI43 rfl rfl (by omega)) rfl rfl rfl ?_
    refine wl_r (or_call (fv := []) (vs := [.slice (dropA A c 1 2) (es.length - 1) (c - 1)]) (cs := []) en94 rfl rfl (call_x2 (fun w hw => cloneE_c w (dropA A c 1 2) (es.length - 1) (c - 1) (es.drop 1) ((holds_dropC (l := 1) fE_len (holds_old oA) (by first | exact lA | omega)) w hw) (by first | rfl | (simp; done) | (simp; omega)) (by omega) (by first | assumption | omega | (simp; omega))))) rfl rfl (kt2p rfl (fun A2_13 c2_13 h_13 => ?_))
    refine wl_v (ov_makeFunc (vs := #[elp (some ⟨g3, 0, none⟩) (0)]) rfl) rfl rfl rfl ?_
    refine wl_r (or_call (fv := []) (vs := [.slice A2_13 ((es.length - 1)) (c2_13), .func (.func 95) #[] #[elp (some ⟨g3, 0, none⟩) (0)]]) (cs := []) en93 rfl rfl (call_m (.head) (fun w hw => deleteFuncE_c w _ _ _ A2_13 (es.length - 1) c2_13 c2_13 (es.drop 1) 95 ([elp (some ⟨g3, 0, none⟩) (0)]) (meets (es.getD 0 (0, 0))) List.length_drop h_13 (by first | assumption | omega | (simp; omega)) en95 (fun x hx ys' w' hw' => match1_c w' x.1 x.2 g3 (es.getD 0 (0, 0)).1 (es.getD 0 (0, 0)).2 ((holds_blk (List.Mem.tail _ (List.Mem.head _))) w' hw')) hw))) rfl rfl (kt0 rfl ?_)
    refine wl_v (ov_assign rfl) rfl rfl rfl ?_
    refine wl_nil ?_
    refine ce_then ?_
    refine cw_seq ?_
    refine cw_region ?_
    refine wl_v (ov_move rfl) rfl rfl rfl ?_
    refine wl_v (ov_slice_l (l := 1) sI23 tI43 rfl rfl (by omega)) rfl rfl rfl ?_
    refine wl_r (or_call (fv := []) (vs := [.slice (dropA A c 1 2) (es.length - 1) (c - 1)]) (cs := []) en42 rfl rfl (call_v (fun w hw => match_c w (dropA A c 1 2) (es.length - 1) (c - 1) (es.drop 1) ((holds_dropC (l := 1) fE_len (holds_old oA) (by first | exact lA | omega)) w hw) (by first | rfl | (simp; done) | (simp; omega)) (by omega) (by first | assumption | omega | (simp; omega))))) rfl rfl (kt0 rfl ?_)
    refine wl_v (ov_move rfl) rfl rfl rfl ?_
    refine wl_r (or_call (fv := []) (vs := [.slice A2_13 (((es.drop 1).filter (fun x => !(meets (es.getD 0 (0, 0))) x)).length) (c2_13)]) (cs := []) en42 rfl rfl (call_v (fun w hw => match_c w A2_13 (((es.drop 1).filter (fun x => !(meets (es.getD 0 (0, 0))) x)).length) c2_13 ((es.drop 1).filter (fun x => !(meets (es.getD 0 (0, 0))) x)) ((holds_row (List.Mem.head _)) w hw) rfl (Nat.le_trans (List.length_filter_le _ _) (by omega)) (Nat.le_trans (List.length_filter_le _ _) (by omega))))) rfl rfl (kt0 rfl ?_)
    refine wl_v (ov_add (r := ((1 + (mm ((es.drop 1).filter (fun x => !(meets (es.getD 0 (0, 0))) x))) : Nat) : Int)) rfl rfl rfl (by have h9 := Nat.le_trans (mm_len ((es.drop 1).filter fun x => !meets (es.getD 0 (0, 0)) x)) (List.length_filter_le _ _); omega)) rfl rfl rfl ?_
    refine wl_v (ov_max (r := ((max (mm (es.drop 1)) (1 + (mm ((es.drop 1).filter (fun x => !(meets (es.getD 0 (0, 0))) x)))) : Nat) : Int)) rfl rfl (by first | omega | (split <;> omega))) rfl rfl rfl ?_
    refine wl_v (ov_assign rfl) rfl rfl rfl ?_
    refine wl_nil ?_
    refine ce_then ?_
    refine cw_ret ?_
    refine ce_results (v := .int .i64 (((max (mm (es.drop 1)) (1 + (mm ((es.drop 1).filter (fun x => !(meets (es.getD 0 (0, 0))) x)))) : Nat) : Int))) (res1 rfl (rv_t rfl)) (fun w' hw => ?_)
    exact ⟨(by rw [mm_step (es := es) (by omega)]), (Keep.nil.ss hw).to_new⟩
termination_by es.length
decreasing_by all_goals first | omega | exact Nat.lt_of_le_of_lt (List.length_filter_le _ _) (by omega)
set_option maxRecDepth 100000 in
theorem DefI_c (w : World) (N : Int) (A : Option Addr) (n : Nat) (c : Nat) (es : List (Int × Int)) (hA : At w A (cells fE es)) (eA : es.length = n) (lA : n ≤ c) (hs : es.length ≤ 1048576) (hN : N ≤ 9223372036854775807) : Calls Try.prog 10 #[.agg #[.int .i64 (N), .slice A (n) (c)]] w (Ret fun rv w' => rv = .int .i64 (defV N es) ∧ New w w' []) := by
  have oA := hA.atB
  subst eA
  refine fn_enter (args := [.agg #[.int .i64 (N), .slice A (es.length) (c)]]) Try.func10 rfl Try.ntmps10 rfl (SS.start w) ?_
  refine cw_seq ?_
  refine cw_region ?_
  refine wl_r (or_box rfl rfl) rfl rfl (kt1 rfl (fun g1 => ?_))
  refine wl_v (ov_assign rfl) rfl rfl rfl ?_
  refine wl_nil ?_
  refine ce_then ?_
  refine cw_seq ?_
  refine cw_seq ?_
  refine cw_region ?_
  refine wl_v (ov_loadAgg (vs := [.int .i64 (N), .slice A (es.length) (c)]) tI25 (holds_blk (List.Mem.head _)) rfl some_lit rfl rfl) rfl rfl rfl ?_
  refine wl_r (or_call (fv := []) (vs := [.agg #[.int .i64 (N), .slice A (es.length) (c)]]) (cs := []) en12 rfl rfl (call_v (fun w hw => validGraphI_c w N A es.length c es ((holds_old oA) w hw) rfl lA (by first | assumption | omega | (simp; omega)) (by first | assumption | omega | (simp; omega))))) rfl rfl (kt_if rfl (fun c4 => ?_) (fun c4 => ?_))
  ·
    refine wl_v (ov_not rfl) rfl rfl rfl ?_
    refine wl_nil ?_
    refine ce_then ?_
    refine cw_false rfl ?_
    refine cw_skip ?_
    refine ce_then ?_
    refine cw_seq ?_
    obtain ⟨m, rfl⟩ := Int.eq_ofNat_of_zero_le (show 0 ≤ N from c4.2.1)
    have hg : Gr m es := by have h9 := c4.gr; rwa [Int.toNat_natCast] at h9
    have hm : m ≤ 7 := by have h9 := c4.2.2; omega
    have hel := hg.len (by omega)
    have hml := mm_len es
    refine cw_draw mixO [] (.cons (.head) (.nil)) rfl ?_
    refine wg_take (i := 0) rfl (ov_fieldAddr fI25_0 some_lit rfl) rfl rfl rfl (by kernel_rfl) (by kernel_rfl) (by kernel_rfl) (by kernel_rfl) ?_
    refine wg_take (i := 1) rfl (ov_load tI3 (holds_blk (List.Mem.head _)) rfl rfl) rfl rfl rfl (by kernel_rfl) (by kernel_rfl) (by kernel_rfl) (by kernel_rfl) ?_
    refine wg_take (i := 2) rfl (ov_fieldAddr fI25_1 some_lit rfl) rfl rfl rfl (by kernel_rfl) (by kernel_rfl) (by kernel_rfl) (by kernel_rfl) ?_
    refine wg_take (i := 3) rfl (ov_load tI23 (holds_blk (List.Mem.head _)) rfl rfl) rfl rfl rfl (by kernel_rfl) (by kernel_rfl) (by kernel_rfl) (by kernel_rfl) ?_
    refine wg_one (i := 4) (by kernel_rfl) ?_
    refine go_r rfl rfl rfl rfl (or_call (fv := []) (vs := [.slice A (es.length) (c)]) (cs := []) en42 rfl rfl (call_v (fun w hw => match_c w A es.length c es ((holds_old oA) w hw) rfl lA (by first | assumption | omega | (simp; omega))))) (kt0 rfl ?_)
    refine gk (.cons (.head) (.nil)) ?_
    refine wg_takep (i := 5) rfl (ov_mul (r := ((2 * (mm es) : Nat) : Int)) rfl rfl (by omega) (by omega)) rfl rfl rfl (by kernel_rfl) (by kernel_rfl) (by kernel_rfl) rfl ?_
    refine wg_takep (i := 6) rfl (ov_sub (r := ((m : Nat) : Int) - ((2 * (mm es) : Nat) : Int)) rfl rfl rfl (by omega)) rfl rfl rfl (by kernel_rfl) (by kernel_rfl) (by kernel_rfl) rfl ?_
    refine wg_takep (i := 7) rfl (ov_assign rfl) rfl rfl rfl (by kernel_rfl) (by kernel_rfl) (by kernel_rfl) rfl ?_
    refine wg_done (by kernel_rfl) ?_
    refine ce_then ?_
    refine cw_ret ?_
    refine ce_results (v := .int .i64 (((m : Nat) : Int) - ((2 * (mm es) : Nat) : Int))) (res1 rfl (rv_t rfl)) (fun w' hw => ?_)
    exact ⟨(by rw [defV, if_pos c4]; exact congrArg (Value.int .i64) (by omega)), (Keep.nil.ss hw).to_new⟩
  ·
    refine wl_v (ov_not rfl) rfl rfl rfl ?_
    refine wl_nil ?_
    refine ce_then ?_
    refine cw_true rfl ?_
    refine cw_seq ?_
    refine cw_region ?_
    refine wl_v (ov_assign rfl) rfl rfl rfl ?_
    refine wl_nil ?_
    refine ce_then ?_
    refine cw_ret ?_
    refine ce_then_ret ?_
    refine ce_results (v := .int .i64 (-1)) (res1 rfl (rv_t rfl)) (fun w' hw => ?_)
    exact ⟨(by rw [defV, if_neg c4]), (Keep.nil.ss hw).to_new⟩
set_option maxRecDepth 100000 in
theorem DrawOddParts_c (w : World) (Ar : Option Addr) (nr : Nat) (cr : Nat) (bs : List (Nat)) (hAr : At w Ar (cells fY bs)) (eAr : bs.length = nr) (lAr : nr ≤ cr) (hb : ∀ x ∈ bs, x < 256) : Calls Try.prog 15 #[.slice Ar (nr) (cr)] w (Ret fun rv w' => ∃ N A1 c1 es A2 c2 ss, ((es.length ≤ c1 ∧ es.length ≤ 100 ∧ -1 ≤ N ∧ N ≤ 8) ∧ ss.length ≤ c2 ∧ ss.length ≤ 9) ∧ rv = .tuple #[.agg #[.int .i64 (N), .slice A1 (es.length) (c1)], .slice A2 (ss.length) (c2)] ∧ New w w' [row 43 2 A1 (es.length) (c1) (cells fE es), row 3 1 A2 (ss.length) (c2) (cells fI ss)]) := by
  have oAr := hAr.atB
  subst eAr
  refine fn_enter (args := [.slice Ar (bs.length) (cr)]) Try.func15 rfl Try.ntmps15 rfl (SS.start w) ?_
  refine cw_seq ?_
  refine cw_region ?_
  refine wl_r (or_alloc tI25 rfl) rfl rfl (kt1 rfl (fun g2 => ?_))
  refine wl_v (ov_assign rfl) rfl rfl rfl ?_
  refine wl_nil ?_
  refine ce_then ?_
  refine cw_seq ?_
  refine cw_region ?_
  refine wl_v (ov_move rfl) rfl rfl rfl ?_
  refine wl_r (or_call (fv := []) (vs := [.slice Ar (bs.length) (cr)]) (cs := []) en48 rfl rfl (call_x2 (fun w hw => newReader_c w Ar bs.length cr bs ((holds_old oAr) w hw) rfl lAr))) rfl rfl (kt2p rfl (fun g_9 n2_9 h_9 => ?_))
  refine wl_v (ov_assign rfl) rfl rfl rfl ?_
  refine wl_nil ?_
  refine ce_then ?_
  refine cw_seq ?_
  refine cw_region ?_
  refine wl_v (ov_move rfl) rfl rfl rfl ?_
  refine wl_r (or_call (fv := []) (vs := [elp (some ⟨g_9, 0, none⟩) (0)]) (cs := []) en49 rfl rfl (call_o (.cons (.head) (.cons (.head) (.nil))) (fun w hw => someGraph_c w _ _ _ g_9 Ar n2_9 cr (bs.take n2_9) 0 (holds_takeC (k := n2_9) fY_len (holds_old oAr)) (by rw [List.length_take]; omega) (by omega) ⟨by omega, fun x hx => hb x (List.mem_of_mem_take hx), by omega⟩ hw))) rfl rfl (kt5p rfl (fun N_11 A2_11 c2_11 es_11 q_11 h_11 => ?_))
  refine wl_r (or_alloc tI25 rfl) rfl rfl (kt1 rfl (fun g5 => ?_))
  refine wl_r0 (or_store_blk (vs := [.int .i64 (N_11), .slice A2_11 (es_11.length) (c2_11)]) (cs' := [.int .i64 (N_11), .slice A2_11 (es_11.length) (c2_11)]) (.head) tI25 rfl rfl rfl rfl (Nat.le_of_ble_eq_true rfl) rfl) rfl rfl (kn0 ?_)
  refine wl_nil ?_
  refine ce_then ?_
  refine cw_seq ?_
  refine cw_region ?_
  refine wl_r (or_buildSlice (e := 3) (size := 1) (is := []) (vs := []) (cs := cells fI ([])) rfl rfl rfl (by decide) (fun _ => by kernel_rfl)) rfl rfl (kt1 rfl (fun g12 => ?_))
  refine wl_v (ov_assign rfl) rfl rfl rfl ?_
  refine wl_nil ?_
  refine ce_then ?_
  refine cw_seq ?_
  refine cw_seq ?_
  refine cw_region ?_
  refine wl_v (ov_assign rfl) rfl rfl rfl ?_
  refine wl_nil ?_
  refine ce_then ?_
  refine cw_block ?_
  refine cw_loop5 (fun (k : Nat) (A3 : Option Addr) (c3 : Nat) (ss : List Int) (q : Nat) => [(2, elp (some ⟨g2, 0, none⟩) (0)), (3, .slice none (0) (0)), (4, elp (some ⟨g_9, 0, none⟩) (0)), (5, elp (some ⟨g5, 0, none⟩) (0)), (6, .slice A3 (ss.length) (c3)), (7, .int .i64 (((k : Nat) : Int)))]) (fun (k : Nat) (A3 : Option Addr) (c3 : Nat) (ss : List Int) (q : Nat) => [row 3 1 A3 (ss.length) (c3) (cells fI ss), blk g5 [.int .i64 (N_11), .slice A2_11 (es_11.length) (c2_11)] 25, row 43 2 A2_11 (es_11.length) (c2_11) (cells fE es_11), blk g_9 [.slice Ar (n2_9) (cr), .int .i64 (((q : Nat) : Int))] 99, blk g2 [.int .i64 (0), .slice none (0) (0)] 25]) (fun (k : Nat) (A3 : Option Addr) (c3 : Nat) (ss : List Int) (q : Nat) => k ≤ 8 ∧ ss.length ≤ c3 ∧ ss.length ≤ k ∧ q ≤ 220 + k) (fun (k : Nat) (A3 : Option Addr) (c3 : Nat) (ss : List Int) (q : Nat) => (N_11 - k).toNat) 0 (some ⟨g12, 0, none⟩) 0 ([]) q_11 ⟨by omega, Nat.le_refl _, by decide, by omega⟩ (.cons rfl (.cons rfl (.cons rfl (.cons rfl (.cons rfl (.cons (congrArg (fun z => some (Value.int .i64 z)) (show 0 = ((0 : Nat) : Int) by first | omega | rfl | (simp; done))) (.nil))))))) (.consE (show row 3 1 (some ⟨g12, 0, none⟩) (0) (0) (cells fI ([])) = row 3 1 (some ⟨g12, 0, none⟩) (([]).length) (0) (cells fI ([])) by rfl) (.head) (.cons (.head) (.cons (.head) (.cons (.head) (.cons (.head) (.nil)))))) ?_
  intro R0 k A3 c3 ss q hk hR0
  obtain ⟨hk1, hk2, hk3, hk4⟩ := hk
  refine cw_seq ?_
  refine cw_seq ?_
  refine cw_region ?_
  refine wl_v (ov_move rfl) rfl rfl rfl ?_
  refine wl_v (ov_fieldAddr fI25_0 some_lit rfl) rfl rfl rfl ?_
  refine wl_v (ov_load tI3 (holds_blk (List.Mem.tail _ (List.Mem.head _))) rfl rfl) rfl rfl rfl ?_
  refine wl_if (ov_lss rfl rfl) rfl rfl rfl (fun c16 => ?_) (fun c16 => ?_)
  ·
    refine wl_nil ?_
    refine ce_then ?_
    refine cw_true rfl ?_
    refine cw_skip ?_
    refine ce_then ?_
    refine cw_seq ?_
    refine cw_block ?_
    refine cw_seq ?_
    refine cw_region ?_
    refine wl_v (ov_move rfl) rfl rfl rfl ?_
    refine wl_r (or_call (fv := []) (vs := [elp (some ⟨g_9, 0, none⟩) (0), .int .i64 (3)]) (cs := []) en50 rfl rfl (call_o (.cons (.tail (.tail (.tail .head))) (.cons (.head) (.cons (.head) (.cons (.head) (.cons (.head) (.nil)))))) (fun w hw => pick_c w _ _ _ 3 g_9 Ar n2_9 cr (bs.take n2_9) q (holds_takeC (k := n2_9) fY_len (holds_old oAr)) (by rw [List.length_take]; omega) (by omega) ⟨by omega, fun x hx => hb x (List.mem_of_mem_take hx), by omega⟩ (by first | assumption | omega | (simp; omega)) hw))) rfl rfl (kt1p rfl (fun v_20 h_20 => ?_))
    refine wl_if (ov_eql rfl rfl) rfl rfl rfl (fun c21 => ?_) (fun c21 => ?_)
    ·
      refine wl_nil ?_
      refine ce_then ?_
      refine cw_true rfl ?_
      refine cw_region ?_
      refine wl_v (ov_move rfl) rfl rfl rfl ?_
      refine wl_v (ov_move rfl) rfl rfl rfl ?_
      refine wl_r (or_buildSlice (e := 3) (size := 1) (is := [0]) (vs := [.int .i64 (((k : Nat) : Int))]) (cs := cells fI ([((k : Nat) : Int)])) rfl rfl rfl (by decide) (fun _ => by kernel_rfl)) rfl rfl (kt1 rfl (fun g24 => ?_))
      refine wl_r (or_append (c2 := 1) sI31 tI3 rfl (by decide) rfl rfl (.tail (.tail .head)) (holds_row (List.Mem.head _)) (by rw [cells_length fI_len]; try simp) (one_cells fI_one _) cells_append (by omega) (by omega)) rfl rfl (kt2p rfl (fun A25 c25 h25 => ?_))
      refine wl_v (ov_assign rfl) rfl rfl rfl ?_
      refine wl_nil ?_
      refine ce_block ?_
      refine ce_then ?_
      refine cw_region ?_
      refine wl_v (ov_move rfl) rfl rfl rfl ?_
      refine wl_v (ov_add (r := ((k + 1 : Nat) : Int)) rfl rfl rfl (by omega)) rfl rfl rfl ?_
      refine wl_v (ov_assign rfl) rfl rfl rfl ?_
      refine wl_nil ?_
      exact fun ac_ w_ hs_ => hR0 (k + 1) A25 c25 (ss ++ ([((k : Nat) : Int)])) (q + 1) ⟨by omega, by rw [List.length_append]; exact h25, by rw [List.length_append]; exact Nat.add_le_add_right hk3 1, by omega⟩ (by omega) ac_ w_ (hs_.weaken (.cons rfl (.cons rfl (.cons rfl (.cons rfl (.cons (congrArg (fun z => some (Value.slice A25 z c25)) (show (ss.length + 1) = ((ss ++ ([((k : Nat) : Int)])).length) from (by rw [List.length_append]; rfl))) (.cons rfl (.nil))))))) (.consE (show row 3 1 A25 (ss.length + 1) (c25) (cells fI (ss ++ ([((k : Nat) : Int)]))) = row 3 1 A25 ((ss ++ ([((k : Nat) : Int)])).length) (c25) (cells fI (ss ++ ([((k : Nat) : Int)]))) by rw [List.length_append]; rfl) (.head) (.cons (.tail (.tail .head)) (.cons (.tail (.tail .head)) (.cons (.tail .head) (.cons (.tail .head) (.nil)))))))
    ·
      refine wl_nil ?_
      refine ce_then ?_
      refine cw_false rfl ?_
      refine cw_skip ?_
      refine ce_block ?_
      refine ce_then ?_
      refine cw_region ?_
      refine wl_v (ov_move rfl) rfl rfl rfl ?_
      refine wl_v (ov_add (r := ((k + 1 : Nat) : Int)) rfl rfl rfl (by omega)) rfl rfl rfl ?_
      refine wl_v (ov_assign rfl) rfl rfl rfl ?_
      refine wl_nil ?_
      exact fun ac_ w_ hs_ => hR0 (k + 1) A3 c3 ss (q + 1) ⟨by omega, hk2, by omega, by omega⟩ (by omega) ac_ w_ (hs_.weaken (.cons rfl (.cons rfl (.cons rfl (.cons rfl (.cons rfl (.cons rfl (.nil))))))) (.cons (.tail .head) (.cons (.tail .head) (.cons (.tail .head) (.cons (.head) (.cons (.head) (.nil)))))))
  ·
    refine wl_nil ?_
    refine ce_then ?_
    refine cw_false rfl ?_
    refine cw_exit ?_
    refine ce_then_exit ?_
    refine ce_then_exit ?_
    refine ce_hit ?_
    refine ce_then ?_
    refine cw_seq ?_
    refine cw_seq ?_
    refine cw_region ?_
    refine wl_v (ov_move rfl) rfl rfl rfl ?_
    refine wl_r (or_call (fv := []) (vs := [elp (some ⟨g_9, 0, none⟩) (0), .int .i64 (16)]) (cs := []) en50 rfl rfl (call_o (.cons (.tail (.tail (.tail .head))) (.cons (.head) (.cons (.head) (.cons (.head) (.cons (.head) (.nil)))))) (fun w hw => pick_c w _ _ _ 16 g_9 Ar n2_9 cr (bs.take n2_9) q (holds_takeC (k := n2_9) fY_len (holds_old oAr)) (by rw [List.length_take]; omega) (by omega) ⟨by omega, fun x hx => hb x (List.mem_of_mem_take hx), by omega⟩ (by first | assumption | omega | (simp; omega)) hw))) rfl rfl (kt1p rfl (fun v_27 h_27 => ?_))
    refine wl_if (ov_eql rfl rfl) rfl rfl rfl (fun c28 => ?_) (fun c28 => ?_)
    ·
      refine wl_nil ?_
      refine ce_then ?_
      refine cw_true rfl ?_
      refine cw_region ?_
      refine wl_v (ov_move rfl) rfl rfl rfl ?_
      refine wl_v (ov_move rfl) rfl rfl rfl ?_
      refine wl_r (or_buildSlice (e := 3) (size := 1) (is := [0, 1, 2]) (vs := [.int .i64 (0), .int .i64 (7), .int .i64 (-1)]) (cs := cells fI ([0, 7, -1])) rfl rfl rfl (by decide) (fun _ => by kernel_rfl)) rfl rfl (kt1 rfl (fun g31 => ?_))
      refine wl_r (or_call (fv := []) (vs := [elp (some ⟨g_9, 0, none⟩) (0), .slice (some ⟨g31, 0, none⟩) (3) (3)]) (cs := []) en51 rfl rfl (call_o (.cons (.tail .head) (.cons (.head) (.cons (.head) (.cons (.head) (.cons (.head) (.cons (.head) (.nil))))))) (fun w hw => one_c w _ _ _ (some ⟨g31, 0, none⟩) 3 3 ([0, 7, -1]) g_9 Ar n2_9 cr (bs.take n2_9) (q + 1) (holds_row (List.Mem.head _)) (by first | rfl | assumption | (simp; done) | (simp; omega)) (Nat.le_refl _) (holds_takeC (k := n2_9) fY_len (holds_old oAr)) (by rw [List.length_take]; omega) (by omega) ⟨by omega, fun x hx => hb x (List.mem_of_mem_take hx), by omega⟩ (by first | assumption | omega | (simp; omega)) hw))) rfl rfl (kt1p rfl (fun v_32 h_32 => ?_))
      refine wl_r (or_buildSlice (e := 3) (size := 1) (is := [0]) (vs := [.int .i64 (v_32)]) (cs := cells fI ([v_32])) rfl rfl rfl (by decide) (fun _ => by kernel_rfl)) rfl rfl (kt1 rfl (fun g33 => ?_))
      refine wl_r (or_append (c2 := 1) sI31 tI3 rfl (by decide) rfl rfl (.tail (.tail (.tail .head))) (holds_row (List.Mem.head _)) (by rw [cells_length fI_len]; try simp) (one_cells fI_one _) cells_append (by omega) (by omega)) rfl rfl (kt2p rfl (fun A34 c34 h34 => ?_))
      refine wl_v (ov_assign rfl) rfl rfl rfl ?_
      refine wl_nil ?_
      refine ce_then ?_
      refine cw_seq ?_
      refine cw_region ?_
      refine wl_v (ov_loadAgg (vs := [.int .i64 (N_11), .slice A2_11 (es_11.length) (c2_11)]) tI25 (holds_blk (List.Mem.tail _ (List.Mem.tail _ (List.Mem.tail _ (List.Mem.tail _ (List.Mem.head _)))))) rfl some_lit rfl rfl) rfl rfl rfl ?_
      refine wl_v (ov_move rfl) rfl rfl rfl ?_
      refine wl_r0 (or_store_blk (vs := [.int .i64 (N_11), .slice A2_11 (es_11.length) (c2_11)]) (cs' := [.int .i64 (N_11), .slice A2_11 (es_11.length) (c2_11)]) (.tail (.tail (.tail (.tail (.tail (.tail .head)))))) tI25 rfl rfl rfl rfl (Nat.le_of_ble_eq_true rfl) rfl) rfl rfl (kn0 ?_)
      refine wl_v (ov_assign rfl) rfl rfl rfl ?_
      refine wl_nil ?_
      refine ce_then ?_
      refine cw_ret ?_
      refine ce_results (v := .tuple #[.agg #[.int .i64 (N_11), .slice A2_11 (es_11.length) (c2_11)], .slice A34 (ss.length + 1) (c34)]) (res2 rfl (rv_c rfl tI25 rfl (List.Mem.head _)) (rv_t rfl)) (fun w' hw => ?_)
      exact ⟨N_11, A2_11, c2_11, es_11, A34, c34, ss ++ ([v_32]), ⟨h_11.1, by rw [List.length_append]; exact h34, by rw [List.length_append]; exact Nat.le_trans (Nat.add_le_add_right hk3 1) (by omega)⟩, (by rw [List.length_append]; rfl), ((.cons (.tail (.tail (.tail (.tail (.tail (.tail .head)))))) (.consE (show row 3 1 A34 (ss.length + 1) (c34) (cells fI (ss ++ ([v_32]))) = row 3 1 A34 ((ss ++ ([v_32])).length) (c34) (cells fI (ss ++ ([v_32]))) by rw [List.length_append]; rfl) (.tail .head) (.nil)) : Keep _ _).ss hw).to_new⟩
    ·
      refine wl_nil ?_
      refine ce_then ?_
      refine cw_false rfl ?_
      refine cw_skip ?_
      refine ce_then ?_
      refine cw_seq ?_
      refine cw_region ?_
      refine wl_v (ov_loadAgg (vs := [.int .i64 (N_11), .slice A2_11 (es_11.length) (c2_11)]) tI25 (holds_blk (List.Mem.tail _ (List.Mem.tail _ (List.Mem.head _)))) rfl some_lit rfl rfl) rfl rfl rfl ?_
      refine wl_v (ov_move rfl) rfl rfl rfl ?_
      refine wl_r0 (or_store_blk (vs := [.int .i64 (N_11), .slice A2_11 (es_11.length) (c2_11)]) (cs' := [.int .i64 (N_11), .slice A2_11 (es_11.length) (c2_11)]) (.tail (.tail (.tail (.tail .head)))) tI25 rfl rfl rfl rfl (Nat.le_of_ble_eq_true rfl) rfl) rfl rfl (kn0 ?_)
      refine wl_v (ov_assign rfl) rfl rfl rfl ?_
      refine wl_nil ?_
      refine ce_then ?_
      refine cw_ret ?_
      refine ce_results (v := .tuple #[.agg #[.int .i64 (N_11), .slice A2_11 (es_11.length) (c2_11)], .slice A3 (ss.length) (c3)]) (res2 rfl (rv_c rfl tI25 rfl (List.Mem.head _)) (rv_t rfl)) (fun w' hw => ?_)
      exact ⟨N_11, A2_11, c2_11, es_11, A3, c3, ss, ⟨h_11.1, hk2, by omega⟩, rfl, ((.cons (.tail (.tail (.tail (.tail .head)))) (.cons (.tail (.tail .head)) (.nil)) : Keep _ _).ss hw).to_new⟩
end Go.Proofs.Ytfjgfocjogfodaa.W40
