/- Walks of functions of the given program: each returns what its Lean function says and leaves the memory that was there as it was. Conditions: those of each theorem. -/
import Derived.Test.YtkkllkkjdbpjpaaSm
import Derived.Test.YtkkllkkjdbpjpaaProg
import Derived.Test.YtkkllkkjdbpjpaaPl
import Derived.Test.YtkkllkkjdbpjpaaPo
import Derived.Test.YtkkllkkjdbpjpaaPd
import Derived.Test.YtkkllkkjdbpjpaaPe
import Derived.Test.YtkkllkkjdbpjpaaPh
import Derived.Test.YtkkllkkjdbpjpaaPm
import Derived.Test.YtkkllkkjdbpjpaaPc
import Derived.Test.YtkkllkkjdbpjpaaPs
import Derived.Test.YtkkllkkjdbpjpaaPt
import Derived.Test.YtkkllkkjdbpjpaaPu
import Derived.Test.YtkkllkkjdbpjpaaPv
import Derived.Test.YtkkllkkjdbpjpaaPw
import Derived.Test.YtkkllkkjdbpjpaaPx
import Derived.Test.YtkkllkkjdbpjpaaPy
import Derived.Test.YtkkllkkjdbpjpaaPz
import Derived.Test.YtkkllkkjdbpjpaaPr
import Derived.Test.YtkkllkkjdbpjpaaPa
import Derived.Test.YtkkllkkjdbpjpaaPn
import Derived.Test.YtkkllkkjdbpjpaaPj
import Derived.Test.YtkkllkkjdbpjpaaPq
import Derived.Test.YtkkllkkjdbpjpaaSp
import Derived.Test.YtkkllkkjdbpjpaaPp
import Derived.Test.YtkkllkkjdbpjpaaSs
import Derived.Test.YtkkllkkjdbpjpaaSr
import Derived.Test.YtkkllkkjdbpjpaaPb
import Derived.Test.YtkkllkkjdbpjpaaSe
import Derived.Test.YtkkllkkjdbpjpaaSf
import Derived.Test.YtkkllkkjdbpjpaaT
import Derived.Test.YtkkllkkjdbpjpaaW5
import Derived.Test.YtkkllkkjdbpjpaaW48
import Derived.KernelRfl
namespace Go.Proofs.Ytkkllkkjdbpjpaa.LFnJointOf
open Go.Sx Go.RowKit Go.Proofs.Ytkkllkkjdbpjpaa.T Go.Proofs.Ytkkllkkjdbpjpaa.W5 Go.Proofs.Ytkkllkkjdbpjpaa.W48
open Go.Plain
set_option linter.unusedVariables false
set_option maxRecDepth 100000 in
theorem FnJointOf_c (w : World) (Ar : Option Addr) (nr : Nat) (cr : Nat) (bs : List (Nat)) (hAr : At w Ar (cells fY bs)) (eAr : bs.length = nr) (lAr : nr ≤ cr) (hb : ∀ x ∈ bs, x < 256) : Calls Try.prog 3 #[.slice Ar (nr) (cr)] w (Ret fun rv w' => rv = .bool true ∧ New w w' []) := by
  have oAr := hAr.atB
  subst eAr
  refine fn_enter (args := [.slice Ar (bs.length) (cr)]) Try.func3 rfl Try.ntmps3 rfl (SS.start w) ?_
  refine cw_seq ?_
  refine cw_region ?_
  refine wl_v (ov_assign rfl) rfl rfl rfl ?_
  refine wl_nil ?_
  refine ce_then ?_
  refine cw_seq ?_
  refine cw_seq ?_
  refine cw_region ?_
  refine wl_v (ov_move rfl) rfl rfl rfl ?_
  refine wl_v (ov_len (sliceI_spec sI22) rfl) rfl rfl rfl ?_
  refine wl_if (ov_gtr rfl rfl) rfl rfl rfl (fun c9 => ?_) (fun c9 => ?_)
  ·
    refine wl_nil ?_
    refine ce_then ?_
    refine cw_true rfl ?_
    refine cw_seq ?_
    refine cw_region ?_
    refine wl_v (ov_assign rfl) rfl rfl rfl ?_
    refine wl_nil ?_
    refine ce_then ?_
    refine cw_ret ?_
    refine ce_then_ret ?_
    refine ce_results (v := .bool true) (res1 rfl (rv_t rfl)) (fun w' hw => ?_)
    exact ⟨rfl, (Keep.nil.ss hw).to_new⟩
  ·
    refine wl_nil ?_
    refine ce_then ?_
    refine cw_false rfl ?_
    refine cw_skip ?_
    refine ce_then ?_
    refine cw_seq ?_
    refine cw_region ?_
    refine wl_v (ov_move rfl) rfl rfl rfl ?_
    refine wl_r (or_call (fv := []) (vs := [.slice Ar (bs.length) (cr)]) (cs := []) en8 rfl rfl (call_x4 (fun w hw => DrawJointOf_c w Ar bs.length cr bs ((holds_old oAr) w hw) rfl lAr (by first | assumption | omega | (simp; omega))))) rfl rfl (kt4p rfl (fun N_11 A2_11 c2_11 es_11 h_11 => ?_))
    have hb11 := h_11
    have hjl := jointV_len N_11 es_11
    refine wl_r (or_alloc tI25 rfl) rfl rfl (kt1 rfl (fun g3 => ?_))
    refine wl_r0 (or_store_blk (vs := [.int .i64 (N_11), .slice A2_11 (es_11.length) (c2_11)]) (cs' := [.int .i64 (N_11), .slice A2_11 (es_11.length) (c2_11)]) (.head) tI25 rfl rfl rfl rfl (Nat.le_of_ble_eq_true rfl) rfl) rfl rfl (kn0 ?_)
    refine wl_nil ?_
    refine ce_then ?_
    refine cw_seq ?_
    refine cw_region ?_
    refine wl_v (ov_loadAgg (vs := [.int .i64 (N_11), .slice A2_11 (es_11.length) (c2_11)]) tI25 (holds_blk (List.Mem.head _)) rfl some_lit rfl rfl) rfl rfl rfl ?_
    refine wl_r (or_call (fv := []) (vs := [.agg #[.int .i64 (N_11), .slice A2_11 (es_11.length) (c2_11)]]) (cs := []) en9 rfl rfl (call_x3 (fun w hw => JointOfI_c w N_11 A2_11 es_11.length c2_11 es_11 ((holds_row (List.Mem.tail _ (List.Mem.head _))) w hw) rfl h_11.1 (by omega) (by omega)))) rfl rfl (kt3p rfl (fun A2_13 k2_13 c2_13 h_13 => ?_))
    refine wl_v (ov_assign rfl) rfl rfl rfl ?_
    refine wl_nil ?_
    refine ce_then ?_
    refine cw_seq ?_
    refine cw_seq ?_
    refine cw_region ?_
    refine wl_v (ov_move rfl) rfl rfl rfl ?_
    refine wl_v (ov_loadAgg (vs := [.int .i64 (N_11), .slice A2_11 (es_11.length) (c2_11)]) tI25 (holds_blk (List.Mem.tail _ (List.Mem.head _))) rfl some_lit rfl rfl) rfl rfl rfl ?_
    refine wl_r (or_call (fv := []) (vs := [.agg #[.int .i64 (N_11), .slice A2_11 (es_11.length) (c2_11)]]) (cs := []) en11 rfl rfl (call_x3 (fun w hw => JointOfS_c w N_11 A2_11 es_11.length c2_11 es_11 ((holds_row (List.Mem.tail _ (List.Mem.tail _ (List.Mem.head _)))) w hw) rfl h_11.1 (by omega) (by omega)))) rfl rfl (kt3p rfl (fun A2_16 k2_16 c2_16 h_16 => ?_))
    refine wl_r (or_call (fv := []) (vs := [.slice A2_13 ((jointV N_11 es_11).length) (k2_13), .slice A2_16 ((jointV N_11 es_11).length) (k2_16)]) (cs := []) en10 rfl rfl (call_v (fun w hw => equalJoints_c w A2_13 ((jointV N_11 es_11).length) k2_13 (jointV N_11 es_11) A2_16 ((jointV N_11 es_11).length) k2_16 (jointV N_11 es_11) ((holds_row (List.Mem.tail _ (List.Mem.head _))) w hw) rfl h_13 ((holds_row (List.Mem.head _)) w hw) rfl h_16 (by omega)))) rfl rfl (kt_if rfl (fun c17 => ?_) (fun c17 => ?_))
    ·
      refine wl_v (ov_not rfl) rfl rfl rfl ?_
      refine wl_v (ov_move rfl) rfl rfl rfl ?_
      refine wl_go rfl rfl ?_
      refine wl_v (ov_loadAgg (vs := [.int .i64 (N_11), .slice A2_11 (es_11.length) (c2_11)]) tI25 (holds_blk (List.Mem.tail _ (List.Mem.tail _ (List.Mem.head _)))) rfl some_lit rfl rfl) rfl rfl rfl ?_
      refine wl_go rfl rfl ?_
      refine wl_r (or_call (fv := []) (vs := [.agg #[.int .i64 (N_11), .slice A2_11 (es_11.length) (c2_11)]]) (cs := []) en12 rfl rfl (call_v (fun w hw => validGraphI_c w N_11 A2_11 es_11.length c2_11 es_11 ((holds_row (List.Mem.tail _ (List.Mem.tail _ (List.Mem.tail _ (List.Mem.head _))))) w hw) rfl h_11.1 (by omega) (by omega)))) rfl rfl (kt_if rfl (fun c21 => ?_) (fun c21 => ?_))
      ·
        have hjf := jointL_facts c21.gr (by have := c21.2; omega)
        rw [← show jointV N_11 es_11 = jointL N_11.toNat es_11 from if_pos c21] at hjf
        refine wl_go rfl rfl ?_
        refine wl_v (ov_not rfl) rfl rfl rfl ?_
        refine wl_v (ov_pick_f rfl rfl) rfl rfl rfl ?_
        refine wl_nil ?_
        refine ce_then ?_
        refine cw_false rfl ?_
        refine cw_skip ?_
        refine ce_then ?_
        refine cw_seq ?_
        refine cw_region ?_
        refine wl_v (ov_assign rfl) rfl rfl rfl ?_
        refine wl_nil ?_
        refine ce_then ?_
        refine cw_seq ?_
        refine cw_seq ?_
        refine cw_region ?_
        refine wl_v (ov_assign rfl) rfl rfl rfl ?_
        refine wl_nil ?_
        refine ce_then ?_
        refine cw_block ?_
        refine cw_loop1 (fun (k : Nat) => [(3, elp (some ⟨g3, 0, none⟩) (0)), (4, .slice A2_13 ((jointV N_11 es_11).length) (k2_13)), (5, .int .i64 (jsum (jointV N_11 es_11) k)), (6, .int .i64 (((k : Nat) : Int)))]) (fun (k : Nat) => [row 32 3 A2_16 ((jointV N_11 es_11).length) (c2_16) (cells fJ (jointV N_11 es_11)), row 32 3 A2_13 ((jointV N_11 es_11).length) (c2_13) (cells fJ (jointV N_11 es_11)), blk g3 [.int .i64 (N_11), .slice A2_11 (es_11.length) (c2_11)] 25, row 65 2 A2_11 (es_11.length) (c2_11) (cells fE es_11)]) (fun (k : Nat) => k ≤ (jointV N_11 es_11).length ∧ 0 ≤ jsum (jointV N_11 es_11) k ∧ jsum (jointV N_11 es_11) k ≤ 100 * (k : Int)) (fun (k : Nat) => (jointV N_11 es_11).length - k) 0 ⟨by omega, by rw [jsum_zero]; omega, by rw [jsum_zero]; omega⟩ (.cons rfl (.cons rfl (.cons (congrArg (fun z => some (Value.int .i64 z)) (show 0 = (jsum (jointV N_11 es_11) 0) from (jsum_zero _).symm)) (.cons (congrArg (fun z => some (Value.int .i64 z)) (show 0 = ((0 : Nat) : Int) by first | omega | rfl | (simp; done))) (.nil))))) (.cons (.head) (.cons (.head) (.cons (.head) (.cons (.head) (.nil))))) ?_
        intro R0 k hk hR0
        refine cw_seq ?_
        refine cw_seq ?_
        refine cw_region ?_
        refine wl_v (ov_move rfl) rfl rfl rfl ?_
        refine wl_v (ov_move rfl) rfl rfl rfl ?_
        refine wl_v (ov_len (sliceI_spec sI27) rfl) rfl rfl rfl ?_
        refine wl_if (ov_lss rfl rfl) rfl rfl rfl (fun c31 => ?_) (fun c31 => ?_)
        ·
          have hjx := hjf.1 _ (getD_mem (xs := jointV N_11 es_11) (k := k) (0, 0, 0) (by omega))
          refine wl_nil ?_
          refine ce_then ?_
          refine cw_true rfl ?_
          refine cw_skip ?_
          refine ce_then ?_
          refine cw_seq ?_
          refine cw_block ?_
          refine cw_seq ?_
          refine cw_region ?_
          refine wl_v (ov_move rfl) rfl rfl rfl ?_
          refine wl_v (ov_move rfl) rfl rfl rfl ?_
          refine wl_v (ov_move rfl) rfl rfl rfl ?_
          refine wl_v (ov_index (k := k) (c := k2_13) sI27 tI32 rfl rfl (some_holds (q := k * 3) (holds_row (List.Mem.tail _ (List.Mem.head _))) (by rw [cells_length fJ_len]; have hlt : k < (jointV N_11 es_11).length := (by omega); omega)) (show k < (jointV N_11 es_11).length from (by omega))) rfl rfl rfl ?_
          refine wl_v (ov_fieldAddr fI32_2 (some_holds (q := k * 3) (holds_row (List.Mem.tail _ (List.Mem.head _))) (by rw [cells_length fJ_len]; have hlt : k < (jointV N_11 es_11).length := (by omega); omega)) rfl) rfl rfl rfl ?_
          refine wl_v (ov_load tI3 (holds_row (List.Mem.tail _ (List.Mem.head _))) rfl (get_fJ2 (show k < (jointV N_11 es_11).length from (by omega)))) rfl rfl rfl ?_
          refine wl_v (ov_add (r := (jsum (jointV N_11 es_11) k) + (((jointV N_11 es_11).getD k (0, 0, 0)).2.2)) rfl rfl rfl (by omega)) rfl rfl rfl ?_
          refine wl_v (ov_assign rfl) rfl rfl rfl ?_
          refine wl_nil ?_
          refine ce_then ?_
          refine cw_seq ?_
          refine cw_draw mixO [] (.cons (.head) (.cons (.head) (.cons (.head) (.cons (.head) (.nil))))) rfl ?_
          refine wg_takep (i := 0) rfl (ov_move rfl) rfl rfl rfl (by kernel_rfl) (by kernel_rfl) (by kernel_rfl) rfl ?_
          refine wg_takep (i := 1) rfl (ov_move rfl) rfl rfl rfl (by kernel_rfl) (by kernel_rfl) (by kernel_rfl) rfl ?_
          refine wg_take (i := 2) rfl (ov_index (k := k) (c := k2_13) sI27 tI32 rfl rfl (some_holds (q := k * 3) (holds_row (List.Mem.tail _ (List.Mem.head _))) (by rw [cells_length fJ_len]; have hlt : k < (jointV N_11 es_11).length := (by omega); omega)) (show k < (jointV N_11 es_11).length from (by omega))) rfl rfl rfl (by kernel_rfl) (by kernel_rfl) (by kernel_rfl) (by kernel_rfl) ?_
          refine wg_take (i := 3) rfl (ov_fieldAddr fI32_2 (some_holds (q := k * 3) (holds_row (List.Mem.tail _ (List.Mem.head _))) (by rw [cells_length fJ_len]; have hlt : k < (jointV N_11 es_11).length := (by omega); omega)) rfl) rfl rfl rfl (by kernel_rfl) (by kernel_rfl) (by kernel_rfl) (by kernel_rfl) ?_
          refine wg_take (i := 4) rfl (ov_load tI3 (holds_row (List.Mem.tail _ (List.Mem.head _))) rfl (get_fJ2 (show k < (jointV N_11 es_11).length from (by omega)))) rfl rfl rfl (by kernel_rfl) (by kernel_rfl) (by kernel_rfl) (by kernel_rfl) ?_
          refine wg_takep_if (i := 5) rfl (ov_lss rfl rfl) rfl rfl rfl (by kernel_rfl) (by kernel_rfl) (by kernel_rfl) rfl (fun c46 => ?_) (fun c46 => ?_)
          ·
            exfalso; omega
          ·
            refine wg_takep (i := 6) rfl (ov_move rfl) rfl rfl rfl (by kernel_rfl) (by kernel_rfl) (by kernel_rfl) rfl ?_
            refine wg_take_go (i := 7) rfl rfl rfl (ov_move rfl) rfl (by kernel_rfl) (by kernel_rfl) (by kernel_rfl) (by kernel_rfl) ?_
            refine wg_take_go (i := 8) rfl rfl rfl (ov_move rfl) rfl (by kernel_rfl) (by kernel_rfl) (by kernel_rfl) (by kernel_rfl) ?_
            refine wg_take_go (i := 9) rfl rfl rfl (ov_index (k := k) (c := k2_13) sI27 tI32 rfl rfl (some_holds (q := k * 3) (holds_row (List.Mem.tail _ (List.Mem.head _))) (by rw [cells_length fJ_len]; have hlt : k < (jointV N_11 es_11).length := (by omega); omega)) (show k < (jointV N_11 es_11).length from (by omega))) rfl (by kernel_rfl) (by kernel_rfl) (by kernel_rfl) (by kernel_rfl) ?_
            refine wg_take_go (i := 10) rfl rfl rfl (ov_fieldAddr fI32_0 (some_holds (q := k * 3) (holds_row (List.Mem.tail _ (List.Mem.head _))) (by rw [cells_length fJ_len]; have hlt : k < (jointV N_11 es_11).length := (by omega); omega)) rfl) rfl (by kernel_rfl) (by kernel_rfl) (by kernel_rfl) (by kernel_rfl) ?_
            refine wg_take_go (i := 11) rfl rfl rfl (ov_load tI3 (holds_row (List.Mem.tail _ (List.Mem.head _))) rfl (get_fJ0 (show k < (jointV N_11 es_11).length from (by omega)))) rfl (by kernel_rfl) (by kernel_rfl) (by kernel_rfl) (by kernel_rfl) ?_
            refine wg_take_go_if (i := 12) rfl rfl rfl (ov_lss rfl rfl) rfl (by kernel_rfl) (by kernel_rfl) (by kernel_rfl) (by kernel_rfl) (fun c53 => ?_) (fun c53 => ?_)
            ·
              exfalso; omega
            ·
              refine wg_takep (i := 13) rfl (ov_pick_f rfl rfl) rfl rfl rfl (by kernel_rfl) (by kernel_rfl) (by kernel_rfl) rfl ?_
              refine wg_takep (i := 14) rfl (ov_move rfl) rfl rfl rfl (by kernel_rfl) (by kernel_rfl) (by kernel_rfl) rfl ?_
              refine wg_take_go (i := 15) rfl rfl rfl (ov_move rfl) rfl (by kernel_rfl) (by kernel_rfl) (by kernel_rfl) (by kernel_rfl) ?_
              refine wg_take_go (i := 16) rfl rfl rfl (ov_move rfl) rfl (by kernel_rfl) (by kernel_rfl) (by kernel_rfl) (by kernel_rfl) ?_
              refine wg_take_go (i := 17) rfl rfl rfl (ov_index (k := k) (c := k2_13) sI27 tI32 rfl rfl (some_holds (q := k * 3) (holds_row (List.Mem.tail _ (List.Mem.head _))) (by rw [cells_length fJ_len]; have hlt : k < (jointV N_11 es_11).length := (by omega); omega)) (show k < (jointV N_11 es_11).length from (by omega))) rfl (by kernel_rfl) (by kernel_rfl) (by kernel_rfl) (by kernel_rfl) ?_
              refine wg_take_go (i := 18) rfl rfl rfl (ov_fieldAddr fI32_0 (some_holds (q := k * 3) (holds_row (List.Mem.tail _ (List.Mem.head _))) (by rw [cells_length fJ_len]; have hlt : k < (jointV N_11 es_11).length := (by omega); omega)) rfl) rfl (by kernel_rfl) (by kernel_rfl) (by kernel_rfl) (by kernel_rfl) ?_
              refine wg_take_go (i := 19) rfl rfl rfl (ov_load tI3 (holds_row (List.Mem.tail _ (List.Mem.head _))) rfl (get_fJ0 (show k < (jointV N_11 es_11).length from (by omega)))) rfl (by kernel_rfl) (by kernel_rfl) (by kernel_rfl) (by kernel_rfl) ?_
              refine wg_take_go (i := 20) rfl rfl rfl (ov_move rfl) rfl (by kernel_rfl) (by kernel_rfl) (by kernel_rfl) (by kernel_rfl) ?_
              refine wg_take_go (i := 21) rfl rfl rfl (ov_move rfl) rfl (by kernel_rfl) (by kernel_rfl) (by kernel_rfl) (by kernel_rfl) ?_
              refine wg_take_go (i := 22) rfl rfl rfl (ov_index (k := k) (c := k2_13) sI27 tI32 rfl rfl (some_holds (q := k * 3) (holds_row (List.Mem.tail _ (List.Mem.head _))) (by rw [cells_length fJ_len]; have hlt : k < (jointV N_11 es_11).length := (by omega); omega)) (show k < (jointV N_11 es_11).length from (by omega))) rfl (by kernel_rfl) (by kernel_rfl) (by kernel_rfl) (by kernel_rfl) ?_
              refine wg_take_go (i := 23) rfl rfl rfl (ov_fieldAddr fI32_1 (some_holds (q := k * 3) (holds_row (List.Mem.tail _ (List.Mem.head _))) (by rw [cells_length fJ_len]; have hlt : k < (jointV N_11 es_11).length := (by omega); omega)) rfl) rfl (by kernel_rfl) (by kernel_rfl) (by kernel_rfl) (by kernel_rfl) ?_
              refine wg_take_go (i := 24) rfl rfl rfl (ov_load tI3 (holds_row (List.Mem.tail _ (List.Mem.head _))) rfl (get_fJ1 (show k < (jointV N_11 es_11).length from (by omega)))) rfl (by kernel_rfl) (by kernel_rfl) (by kernel_rfl) (by kernel_rfl) ?_
              refine wg_take_go_if (i := 25) rfl rfl rfl (ov_gtr rfl rfl) rfl (by kernel_rfl) (by kernel_rfl) (by kernel_rfl) (by kernel_rfl) (fun c66 => ?_) (fun c66 => ?_)
              ·
                exfalso; omega
              ·
                refine wg_takep (i := 26) rfl (ov_pick_f rfl rfl) rfl rfl rfl (by kernel_rfl) (by kernel_rfl) (by kernel_rfl) rfl ?_
                refine wg_done (by kernel_rfl) ?_
                refine ce_then ?_
                refine cw_false rfl ?_
                refine cw_skip ?_
                refine ce_block ?_
                refine ce_then ?_
                refine cw_region ?_
                refine wl_v (ov_move rfl) rfl rfl rfl ?_
                refine wl_v (ov_add (r := ((k + 1 : Nat) : Int)) rfl rfl rfl (by omega)) rfl rfl rfl ?_
                refine wl_v (ov_assign rfl) rfl rfl rfl ?_
                refine wl_nil ?_
                exact fun ac_ w_ hs_ => hR0 (k + 1) ⟨by omega, by rw [jsum_succ (by omega)]; omega, by rw [jsum_succ (by omega)]; omega⟩ (by omega) ac_ w_ (hs_.weaken (.cons rfl (.cons rfl (.cons (congrArg (fun z => some (Value.int .i64 z)) (show ((jsum (jointV N_11 es_11) k) + (((jointV N_11 es_11).getD k (0, 0, 0)).2.2)) = (jsum (jointV N_11 es_11) (k + 1)) from (jsum_succ (by omega)).symm)) (.cons rfl (.nil))))) (.cons (.head) (.cons (.head) (.cons (.head) (.cons (.head) (.nil))))))
        ·
          refine wl_nil ?_
          refine ce_then ?_
          refine cw_false rfl ?_
          refine cw_exit ?_
          refine ce_then_exit ?_
          refine ce_then_exit ?_
          refine ce_hit ?_
          refine ce_then ?_
          refine cw_seq ?_
          refine cw_region ?_
          refine wl_v (ov_move rfl) rfl rfl rfl ?_
          refine wl_v (ov_fieldAddr fI25_1 some_lit rfl) rfl rfl rfl ?_
          refine wl_v (ov_load tI23 (holds_blk (List.Mem.tail _ (List.Mem.tail _ (List.Mem.head _)))) rfl rfl) rfl rfl rfl ?_
          refine wl_v (ov_len (sliceI_spec sI23) rfl) rfl rfl rfl ?_
          refine wl_if (ov_eql rfl rfl) rfl rfl rfl (fun c72 => ?_) (fun c72 => ?_)
          ·
            refine wl_v (ov_assign rfl) rfl rfl rfl ?_
            refine wl_nil ?_
            refine ce_then ?_
            refine cw_ret ?_
            refine ce_results (v := .bool true) (res1 rfl (rv_t rfl)) (fun w' hw => ?_)
            exact ⟨rfl, (Keep.nil.ss hw).to_new⟩
          ·
            exact absurd (by rw [show k = (jointV N_11 es_11).length from by omega, jsum_all]; exact hjf.2) c72
      ·
        refine wl_go rfl rfl ?_
        refine wl_v (ov_not rfl) rfl rfl rfl ?_
        refine wl_v (ov_pick_f rfl rfl) rfl rfl rfl ?_
        refine wl_nil ?_
        refine ce_then ?_
        refine cw_true rfl ?_
        refine cw_seq ?_
        refine cw_region ?_
        refine wl_v (ov_move rfl) rfl rfl rfl ?_
        refine wl_v (ov_loadAgg (vs := [.int .i64 (N_11), .slice A2_11 (es_11.length) (c2_11)]) tI25 (holds_blk (List.Mem.tail _ (List.Mem.tail _ (List.Mem.head _)))) rfl some_lit rfl rfl) rfl rfl rfl ?_
        refine wl_r (or_call (fv := []) (vs := [.agg #[.int .i64 (N_11), .slice A2_11 (es_11.length) (c2_11)]]) (cs := []) en11 rfl rfl (call_x3 (fun w hw => JointOfS_c w N_11 A2_11 es_11.length c2_11 es_11 ((holds_row (List.Mem.tail _ (List.Mem.tail _ (List.Mem.tail _ (List.Mem.head _))))) w hw) rfl h_11.1 (by omega) (by omega)))) rfl rfl (kt3p rfl (fun A2_26 k2_26 c2_26 h_26 => ?_))
        refine wl_r (or_call (fv := []) (vs := [.slice A2_13 ((jointV N_11 es_11).length) (k2_13), .slice A2_26 ((jointV N_11 es_11).length) (k2_26)]) (cs := []) en10 rfl rfl (call_v (fun w hw => equalJoints_c w A2_13 ((jointV N_11 es_11).length) k2_13 (jointV N_11 es_11) A2_26 ((jointV N_11 es_11).length) k2_26 (jointV N_11 es_11) ((holds_row (List.Mem.tail _ (List.Mem.tail _ (List.Mem.head _)))) w hw) rfl h_13 ((holds_row (List.Mem.head _)) w hw) rfl h_26 (by omega)))) rfl rfl (kt_if rfl (fun c27 => ?_) (fun c27 => ?_))
        ·
          refine wl_v (ov_assign rfl) rfl rfl rfl ?_
          refine wl_nil ?_
          refine ce_then ?_
          refine cw_ret ?_
          refine ce_then_ret ?_
          refine ce_results (v := .bool true) (res1 rfl (rv_t rfl)) (fun w' hw => ?_)
          exact ⟨rfl, (Keep.nil.ss hw).to_new⟩
        ·
          exact absurd rfl c27
    ·
      exact absurd rfl c17
end Go.Proofs.Ytkkllkkjdbpjpaa.LFnJointOf
