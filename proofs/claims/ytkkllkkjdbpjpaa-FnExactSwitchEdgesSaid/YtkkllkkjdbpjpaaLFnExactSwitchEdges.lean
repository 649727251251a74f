/- Walks of functions of the given program: each returns what its Lean function says and leaves the memory that was there as it was. Conditions: those of each theorem. -/
import Derived.Test.YtkkllkkjdbpjpaaSm
import Derived.Test.YtkkllkkjdbpjpaaProg
import Derived.Test.YtkkllkkjdbpjpaaPl
import Derived.Test.YtkkllkkjdbpjpaaPo
import Derived.Test.YtkkllkkjdbpjpaaPd
import Derived.Test.YtkkllkkjdbpjpaaPe
import Derived.Test.YtkkllkkjdbpjpaaPh
import Derived.Test.YtkkllkkjdbpjpaaPm
import Derived.Test.YtkkllkkjdbpjpaaPc
import Derived.Test.YtkkllkkjdbpjpaaPs
import Derived.Test.YtkkllkkjdbpjpaaPt
import Derived.Test.YtkkllkkjdbpjpaaPu
import Derived.Test.YtkkllkkjdbpjpaaPv
import Derived.Test.YtkkllkkjdbpjpaaPw
import Derived.Test.YtkkllkkjdbpjpaaPx
import Derived.Test.YtkkllkkjdbpjpaaPy
import Derived.Test.YtkkllkkjdbpjpaaPz
import Derived.Test.YtkkllkkjdbpjpaaPr
import Derived.Test.YtkkllkkjdbpjpaaPa
import Derived.Test.YtkkllkkjdbpjpaaPn
import Derived.Test.YtkkllkkjdbpjpaaPj
import Derived.Test.YtkkllkkjdbpjpaaPq
import Derived.Test.YtkkllkkjdbpjpaaSp
import Derived.Test.YtkkllkkjdbpjpaaPp
import Derived.Test.YtkkllkkjdbpjpaaSs
import Derived.Test.YtkkllkkjdbpjpaaSr
import Derived.Test.YtkkllkkjdbpjpaaPb
import Derived.Test.YtkkllkkjdbpjpaaSe
import Derived.Test.YtkkllkkjdbpjpaaSf
import Derived.Test.YtkkllkkjdbpjpaaT
import Derived.Test.YtkkllkkjdbpjpaaW5
import Derived.Test.YtkkllkkjdbpjpaaW47
import Derived.KernelRfl
namespace Go.Proofs.Ytkkllkkjdbpjpaa.LFnExactSwitchEdges
open Go.Sx Go.RowKit Go.Proofs.Ytkkllkkjdbpjpaa.T Go.Proofs.Ytkkllkkjdbpjpaa.W5 Go.Proofs.Ytkkllkkjdbpjpaa.W47
open Go.Plain
set_option linter.unusedVariables false
set_option maxRecDepth 100000 in
theorem FnExactSwitchEdges_c (w : World) (N : Int) (A : Option Addr) (n : Nat) (c : Nat) (es : List (Int × Int)) (s1 : Int) (s2 : Int) (s3 : Int) (s4 : Int) (hA : At w A (cells fE es)) (eA : es.length = n) (lA : n ≤ c) (hN : -9223372036854775808 ≤ N ∧ N ≤ 9223372036854775807) (hn : n ≤ 9223372036854775807) : Calls Try.prog 6 #[.agg #[.int .i64 (N), .slice A (n) (c)], .agg #[.int .i64 (s1), .int .i64 (s2), .int .i64 (s3), .int .i64 (s4)]] w (Ret fun rv w' => rv = .bool true ∧ New w w' []) := by
  have oA := hA.atB
  subst eA
  have hll := swV_len N es s1 s2 s3 s4
  refine fn_enter (args := [.agg #[.int .i64 (N), .slice A (es.length) (c)], .agg #[.int .i64 (s1), .int .i64 (s2), .int .i64 (s3), .int .i64 (s4)]]) Try.func6 rfl Try.ntmps6 rfl (SS.start w) ?_
  refine cw_seq ?_
  refine cw_region ?_
  refine wl_r (or_box rfl rfl) rfl rfl (kt1 rfl (fun g2 => ?_))
  refine wl_r (or_box rfl rfl) rfl rfl (kt1 rfl (fun g3 => ?_))
  refine wl_v (ov_assign rfl) rfl rfl rfl ?_
  refine wl_nil ?_
  refine ce_then ?_
  refine cw_seq ?_
  refine cw_region ?_
  refine wl_v (ov_assign rfl) rfl rfl rfl ?_
  refine wl_nil ?_
  refine ce_then ?_
  refine cw_seq ?_
  refine cw_region ?_
  refine wl_v (ov_loadAgg (vs := [.int .i64 (N), .slice A (es.length) (c)]) tI36 (holds_blk (List.Mem.tail _ (List.Mem.head _))) rfl some_lit rfl rfl) rfl rfl rfl ?_
  refine wl_v (ov_move rfl) rfl rfl rfl ?_
  refine wl_r (or_call (fv := []) (vs := [.agg #[.int .i64 (N), .slice A (es.length) (c)], .int .i64 (1048576)]) (cs := []) en13 rfl rfl (call_v (fun w hw => szGraph_c w N A es.length c es 1048576 ((holds_old oA) w hw) rfl lA (by first | assumption | omega | (simp; omega))))) rfl rfl (kt0 rfl ?_)
  refine wl_v (ov_assign rfl) rfl rfl rfl ?_
  refine wl_nil ?_
  refine ce_then ?_
  refine cw_seq ?_
  refine cw_seq ?_
  refine cw_region ?_
  refine wl_v (ov_move rfl) rfl rfl rfl ?_
  refine wl_if (ov_lss rfl rfl) rfl rfl rfl (fun c20 => ?_) (fun c20 => ?_)
  ·
    refine wl_nil ?_
    refine ce_then ?_
    refine cw_true rfl ?_
    refine cw_seq ?_
    refine cw_region ?_
    refine wl_v (ov_assign rfl) rfl rfl rfl ?_
    refine wl_nil ?_
    refine ce_then ?_
    refine cw_ret ?_
    refine ce_then_ret ?_
    refine ce_results (v := .bool true) (res1 rfl (rv_t rfl)) (fun w' hw => ?_)
    exact ⟨rfl, (Keep.nil.ss hw).to_new⟩
  ·
    have hsz20 : es.length ≤ 1048576 := by split at c20 <;> omega
    refine wl_nil ?_
    refine ce_then ?_
    refine cw_false rfl ?_
    refine cw_skip ?_
    refine ce_then ?_
    refine cw_cut4 (fun (g6 : Nat) (A2_26 : Option Addr) (k2_26 : Nat) (c2_26 : Nat) => [(2, elp (some ⟨g2, 0, none⟩) (0)), (3, elp (some ⟨g3, 0, none⟩) (0)), (4, .bool false), (6, elp (some ⟨g6, 0, none⟩) (0)), (7, .bool ((swV N es s1 s2 s3 s4).2.2))]) (fun (g6 : Nat) (A2_26 : Option Addr) (k2_26 : Nat) (c2_26 : Nat) => [blk g3 [.int .i64 (s1), .int .i64 (s2), .int .i64 (s3), .int .i64 (s4)] 52, blk g2 [.int .i64 (N), .slice A (es.length) (c)] 36, blk g6 [.int .i64 ((swV N es s1 s2 s3 s4).1), .slice A2_26 ((swV N es s1 s2 s3 s4).2.1.length) (k2_26)] 25, row 65 2 A2_26 ((swV N es s1 s2 s3 s4).2.1.length) (c2_26) (cells fE ((swV N es s1 s2 s3 s4).2.1))]) (fun (g6 : Nat) (A2_26 : Option Addr) (k2_26 : Nat) (c2_26 : Nat) => (swV N es s1 s2 s3 s4).2.1.length ≤ k2_26) (fun K6 hK6 => ?_) ?_
    ·
      refine cw_draw mixO [9] (.cons (.head) (.cons (.head) (.nil))) rfl ?_
      refine wg_take (i := 0) rfl (ov_loadAgg (vs := [.int .i64 (N), .slice A (es.length) (c)]) tI36 (holds_blk (List.Mem.tail _ (List.Mem.head _))) rfl some_lit rfl rfl) rfl rfl rfl (by kernel_rfl) (by kernel_rfl) (by kernel_rfl) (by kernel_rfl) ?_
      refine wg_take (i := 2) rfl (ov_loadAgg (vs := [.int .i64 (s1), .int .i64 (s2), .int .i64 (s3), .int .i64 (s4)]) tI52 (holds_blk (List.Mem.head _)) rfl some_lit rfl rfl) rfl rfl rfl (by kernel_rfl) (by kernel_rfl) (by kernel_rfl) (by kernel_rfl) ?_
      refine wg_two (i := 1) (j := 8) (by kernel_rfl) ?_ ?_
      ·
        refine go_r rfl rfl rfl rfl (or_call (fv := []) (vs := [.agg #[.int .i64 (N), .slice A (es.length) (c)]]) (cs := []) en15 rfl rfl (call_x1 (fun w hw => toGraph_c w N A es.length c es ((holds_old oA) w hw) rfl lA (by first | assumption | omega | (simp; omega))))) (kt1p rfl (fun g_23 h_23 => ?_))
        refine gk (.cons (.tail .head) (.cons (.tail .head) (.nil))) ?_
        refine wg_two (i := 3) (j := 8) (by kernel_rfl) ?_ ?_
        ·
          refine go_r rfl rfl rfl rfl (or_call (fv := []) (vs := [.agg #[.int .i64 (s1), .int .i64 (s2), .int .i64 (s3), .int .i64 (s4)]]) (cs := []) en27 rfl rfl (call_v (fun w hw => toSwitch_c w s1 s2 s3 s4 ))) (kt0 rfl ?_)
          refine gk (.cons (.tail .head) (.cons (.tail .head) (.nil))) ?_
          refine wg_two (i := 4) (j := 8) (by kernel_rfl) ?_ ?_
          ·
            refine go_r rfl rfl rfl rfl (or_call (fv := []) (vs := [.agg #[.int .i64 (N), .slice (some ⟨g_23, 0, none⟩) (es.length) (es.length)], .agg #[.int .i64 (s1), .int .i64 (s2), .int .i64 (s3), .int .i64 (s4)]]) (cs := []) en26 rfl rfl (call_x3 (fun w hw => SwitchEdgesS_c w N (some ⟨g_23, 0, none⟩) es.length es.length es s1 s2 s3 s4 ((holds_row (List.Mem.head _)) w hw) rfl (Nat.le_refl _) (by first | assumption | omega | (simp; omega))))) (kt3p rfl (fun A2_26 k2_26 c2_26 h_26 => ?_))
            refine gk (.cons (.tail (.tail .head)) (.cons (.tail (.tail .head)) (.nil))) ?_
            refine wg_takep (i := 5) rfl (ov_move rfl) rfl rfl rfl (by kernel_rfl) (by kernel_rfl) (by kernel_rfl) rfl ?_
            refine wg_takep (i := 6) rfl (ov_extract rfl rfl) rfl rfl rfl (by kernel_rfl) (by kernel_rfl) (by kernel_rfl) rfl ?_
            refine wg_takep (i := 7) rfl (ov_extract rfl rfl) rfl rfl rfl (by kernel_rfl) (by kernel_rfl) (by kernel_rfl) rfl ?_
            refine wg_one (i := 8) (by kernel_rfl) ?_
            refine go_r rfl rfl rfl rfl (or_alloc tI25 rfl) (kt1 rfl (fun g6 => ?_))
            refine gk (.cons (.tail (.tail (.tail .head))) (.cons (.tail (.tail (.tail .head))) (.nil))) ?_
            refine wg_one (i := 9) (by kernel_rfl) ?_
            refine go_late0 rfl rfl rfl rfl (or_store_blk (vs := [.int .i64 ((swV N es s1 s2 s3 s4).1), .slice A2_26 ((swV N es s1 s2 s3 s4).2.1.length) (k2_26)]) (cs' := [.int .i64 ((swV N es s1 s2 s3 s4).1), .slice A2_26 ((swV N es s1 s2 s3 s4).2.1.length) (k2_26)]) (.head) tI25 rfl rfl rfl rfl (Nat.le_of_ble_eq_true rfl) rfl) (kn0 ?_)
            refine wa_r (i := 10) (by kernel_rfl) rfl rfl rfl (OpV.opR (ov_assign rfl)) (kt0 rfl ?_)
            refine wa_done (by kernel_rfl) ?_
            exact fun ac_ w_ hs_ => hK6 g6 A2_26 k2_26 c2_26 h_26 ac_ w_ (hs_.weaken (.cons rfl (.cons rfl (.cons rfl (.cons rfl (.cons rfl (.nil)))))) (.cons (.tail (.tail (.tail .head))) (.cons (.tail (.tail (.tail .head))) (.cons (.head) (.cons (.head) (.nil))))))
          ·
            refine go_r rfl rfl rfl rfl (or_alloc tI25 rfl) (kt1 rfl (fun g6 => ?_))
            refine gk (.cons (.tail (.tail .head)) (.cons (.tail (.tail .head)) (.nil))) ?_
            refine wg_one (i := 4) (by kernel_rfl) ?_
            refine go_r rfl rfl rfl rfl (or_call (fv := []) (vs := [.agg #[.int .i64 (N), .slice (some ⟨g_23, 0, none⟩) (es.length) (es.length)], .agg #[.int .i64 (s1), .int .i64 (s2), .int .i64 (s3), .int .i64 (s4)]]) (cs := []) en26 rfl rfl (call_x3 (fun w hw => SwitchEdgesS_c w N (some ⟨g_23, 0, none⟩) es.length es.length es s1 s2 s3 s4 ((holds_row (List.Mem.tail _ (List.Mem.head _))) w hw) rfl (Nat.le_refl _) (by first | assumption | omega | (simp; omega))))) (kt3p rfl (fun A2_26 k2_26 c2_26 h_26 => ?_))
            refine gk (.cons (.tail (.tail (.tail .head))) (.cons (.tail (.tail (.tail .head))) (.nil))) ?_
            refine wg_takep (i := 5) rfl (ov_move rfl) rfl rfl rfl (by kernel_rfl) (by kernel_rfl) (by kernel_rfl) rfl ?_
            refine wg_takep (i := 6) rfl (ov_extract rfl rfl) rfl rfl rfl (by kernel_rfl) (by kernel_rfl) (by kernel_rfl) rfl ?_
            refine wg_takep (i := 7) rfl (ov_extract rfl rfl) rfl rfl rfl (by kernel_rfl) (by kernel_rfl) (by kernel_rfl) rfl ?_
            refine wg_one (i := 9) (by kernel_rfl) ?_
            refine go_late0 rfl rfl rfl rfl (or_store_blk (vs := [.int .i64 ((swV N es s1 s2 s3 s4).1), .slice A2_26 ((swV N es s1 s2 s3 s4).2.1.length) (k2_26)]) (cs' := [.int .i64 ((swV N es s1 s2 s3 s4).1), .slice A2_26 ((swV N es s1 s2 s3 s4).2.1.length) (k2_26)]) (.tail .head) tI25 rfl rfl rfl rfl (Nat.le_of_ble_eq_true rfl) rfl) (kn0 ?_)
            refine wa_r (i := 10) (by kernel_rfl) rfl rfl rfl (OpV.opR (ov_assign rfl)) (kt0 rfl ?_)
            refine wa_done (by kernel_rfl) ?_
            exact fun ac_ w_ hs_ => hK6 g6 A2_26 k2_26 c2_26 h_26 ac_ w_ (hs_.weaken (.cons rfl (.cons rfl (.cons rfl (.cons rfl (.cons rfl (.nil)))))) (.cons (.tail (.tail (.tail .head))) (.cons (.tail (.tail (.tail .head))) (.cons (.head) (.cons (.head) (.nil))))))
        ·
          refine go_r rfl rfl rfl rfl (or_alloc tI25 rfl) (kt1 rfl (fun g6 => ?_))
          refine gk (.cons (.tail (.tail .head)) (.cons (.tail (.tail .head)) (.nil))) ?_
          refine wg_one (i := 3) (by kernel_rfl) ?_
          refine go_r rfl rfl rfl rfl (or_call (fv := []) (vs := [.agg #[.int .i64 (s1), .int .i64 (s2), .int .i64 (s3), .int .i64 (s4)]]) (cs := []) en27 rfl rfl (call_v (fun w hw => toSwitch_c w s1 s2 s3 s4 ))) (kt0 rfl ?_)
          refine gk (.cons (.tail (.tail .head)) (.cons (.tail (.tail .head)) (.nil))) ?_
          refine wg_one (i := 4) (by kernel_rfl) ?_
          refine go_r rfl rfl rfl rfl (or_call (fv := []) (vs := [.agg #[.int .i64 (N), .slice (some ⟨g_23, 0, none⟩) (es.length) (es.length)], .agg #[.int .i64 (s1), .int .i64 (s2), .int .i64 (s3), .int .i64 (s4)]]) (cs := []) en26 rfl rfl (call_x3 (fun w hw => SwitchEdgesS_c w N (some ⟨g_23, 0, none⟩) es.length es.length es s1 s2 s3 s4 ((holds_row (List.Mem.tail _ (List.Mem.head _))) w hw) rfl (Nat.le_refl _) (by first | assumption | omega | (simp; omega))))) (kt3p rfl (fun A2_26 k2_26 c2_26 h_26 => ?_))
          refine gk (.cons (.tail (.tail (.tail .head))) (.cons (.tail (.tail (.tail .head))) (.nil))) ?_
          refine wg_takep (i := 5) rfl (ov_move rfl) rfl rfl rfl (by kernel_rfl) (by kernel_rfl) (by kernel_rfl) rfl ?_
          refine wg_takep (i := 6) rfl (ov_extract rfl rfl) rfl rfl rfl (by kernel_rfl) (by kernel_rfl) (by kernel_rfl) rfl ?_
          refine wg_takep (i := 7) rfl (ov_extract rfl rfl) rfl rfl rfl (by kernel_rfl) (by kernel_rfl) (by kernel_rfl) rfl ?_
          refine wg_one (i := 9) (by kernel_rfl) ?_
          refine go_late0 rfl rfl rfl rfl (or_store_blk (vs := [.int .i64 ((swV N es s1 s2 s3 s4).1), .slice A2_26 ((swV N es s1 s2 s3 s4).2.1.length) (k2_26)]) (cs' := [.int .i64 ((swV N es s1 s2 s3 s4).1), .slice A2_26 ((swV N es s1 s2 s3 s4).2.1.length) (k2_26)]) (.tail .head) tI25 rfl rfl rfl rfl (Nat.le_of_ble_eq_true rfl) rfl) (kn0 ?_)
          refine wa_r (i := 10) (by kernel_rfl) rfl rfl rfl (OpV.opR (ov_assign rfl)) (kt0 rfl ?_)
          refine wa_done (by kernel_rfl) ?_
          exact fun ac_ w_ hs_ => hK6 g6 A2_26 k2_26 c2_26 h_26 ac_ w_ (hs_.weaken (.cons rfl (.cons rfl (.cons rfl (.cons rfl (.cons rfl (.nil)))))) (.cons (.tail (.tail (.tail .head))) (.cons (.tail (.tail (.tail .head))) (.cons (.head) (.cons (.head) (.nil))))))
      ·
        refine go_r rfl rfl rfl rfl (or_alloc tI25 rfl) (kt1 rfl (fun g6 => ?_))
        refine gk (.cons (.tail .head) (.cons (.tail .head) (.nil))) ?_
        refine wg_one (i := 1) (by kernel_rfl) ?_
        refine go_r rfl rfl rfl rfl (or_call (fv := []) (vs := [.agg #[.int .i64 (N), .slice A (es.length) (c)]]) (cs := []) en15 rfl rfl (call_x1 (fun w hw => toGraph_c w N A es.length c es ((holds_old oA) w hw) rfl lA (by first | assumption | omega | (simp; omega))))) (kt1p rfl (fun g_23 h_23 => ?_))
        refine gk (.cons (.tail (.tail .head)) (.cons (.tail (.tail .head)) (.nil))) ?_
        refine wg_one (i := 3) (by kernel_rfl) ?_
        refine go_r rfl rfl rfl rfl (or_call (fv := []) (vs := [.agg #[.int .i64 (s1), .int .i64 (s2), .int .i64 (s3), .int .i64 (s4)]]) (cs := []) en27 rfl rfl (call_v (fun w hw => toSwitch_c w s1 s2 s3 s4 ))) (kt0 rfl ?_)
        refine gk (.cons (.tail (.tail .head)) (.cons (.tail (.tail .head)) (.nil))) ?_
        refine wg_one (i := 4) (by kernel_rfl) ?_
        refine go_r rfl rfl rfl rfl (or_call (fv := []) (vs := [.agg #[.int .i64 (N), .slice (some ⟨g_23, 0, none⟩) (es.length) (es.length)], .agg #[.int .i64 (s1), .int .i64 (s2), .int .i64 (s3), .int .i64 (s4)]]) (cs := []) en26 rfl rfl (call_x3 (fun w hw => SwitchEdgesS_c w N (some ⟨g_23, 0, none⟩) es.length es.length es s1 s2 s3 s4 ((holds_row (List.Mem.head _)) w hw) rfl (Nat.le_refl _) (by first | assumption | omega | (simp; omega))))) (kt3p rfl (fun A2_26 k2_26 c2_26 h_26 => ?_))
        refine gk (.cons (.tail (.tail (.tail .head))) (.cons (.tail (.tail (.tail .head))) (.nil))) ?_
        refine wg_takep (i := 5) rfl (ov_move rfl) rfl rfl rfl (by kernel_rfl) (by kernel_rfl) (by kernel_rfl) rfl ?_
        refine wg_takep (i := 6) rfl (ov_extract rfl rfl) rfl rfl rfl (by kernel_rfl) (by kernel_rfl) (by kernel_rfl) rfl ?_
        refine wg_takep (i := 7) rfl (ov_extract rfl rfl) rfl rfl rfl (by kernel_rfl) (by kernel_rfl) (by kernel_rfl) rfl ?_
        refine wg_one (i := 9) (by kernel_rfl) ?_
        refine go_late0 rfl rfl rfl rfl (or_store_blk (vs := [.int .i64 ((swV N es s1 s2 s3 s4).1), .slice A2_26 ((swV N es s1 s2 s3 s4).2.1.length) (k2_26)]) (cs' := [.int .i64 ((swV N es s1 s2 s3 s4).1), .slice A2_26 ((swV N es s1 s2 s3 s4).2.1.length) (k2_26)]) (.tail (.tail .head)) tI25 rfl rfl rfl rfl (Nat.le_of_ble_eq_true rfl) rfl) (kn0 ?_)
        refine wa_r (i := 10) (by kernel_rfl) rfl rfl rfl (OpV.opR (ov_assign rfl)) (kt0 rfl ?_)
        refine wa_done (by kernel_rfl) ?_
        exact fun ac_ w_ hs_ => hK6 g6 A2_26 k2_26 c2_26 h_26 ac_ w_ (hs_.weaken (.cons rfl (.cons rfl (.cons rfl (.cons rfl (.cons rfl (.nil)))))) (.cons (.tail (.tail (.tail .head))) (.cons (.tail (.tail (.tail .head))) (.cons (.head) (.cons (.head) (.nil))))))
    ·
      intro g6 A2_26 k2_26 c2_26 hz6
      refine cw_seq ?_
      refine cw_region ?_
      refine wl_v (ov_loadAgg (vs := [.int .i64 (N), .slice A (es.length) (c)]) tI36 (holds_blk (List.Mem.tail _ (List.Mem.head _))) rfl some_lit rfl rfl) rfl rfl rfl ?_
      refine wl_r (or_call (fv := []) (vs := [.agg #[.int .i64 (N), .slice A (es.length) (c)]]) (cs := []) en15 rfl rfl (call_x1 (fun w hw => toGraph_c w N A es.length c es ((holds_old oA) w hw) rfl lA (by first | assumption | omega | (simp; omega))))) rfl rfl (kt1p rfl (fun g_30 h_30 => ?_))
      refine wl_r (or_alloc tI25 rfl) rfl rfl (kt1 rfl (fun g8 => ?_))
      refine wl_r0 (or_store_blk (vs := [.int .i64 (N), .slice (some ⟨g_30, 0, none⟩) (es.length) (es.length)]) (cs' := [.int .i64 (N), .slice (some ⟨g_30, 0, none⟩) (es.length) (es.length)]) (.head) tI25 rfl rfl rfl rfl (Nat.le_of_ble_eq_true rfl) rfl) rfl rfl (kn0 ?_)
      refine wl_nil ?_
      refine ce_then ?_
      refine cw_cut4 (fun (g9 : Nat) (A2_35 : Option Addr) (k2_35 : Nat) (c2_35 : Nat) => [(2, elp (some ⟨g2, 0, none⟩) (0)), (3, elp (some ⟨g3, 0, none⟩) (0)), (4, .bool false), (6, elp (some ⟨g6, 0, none⟩) (0)), (7, .bool ((swV N es s1 s2 s3 s4).2.2)), (8, elp (some ⟨g8, 0, none⟩) (0)), (9, elp (some ⟨g9, 0, none⟩) (0)), (10, .bool ((swV N es s1 s2 s3 s4).2.2))]) (fun (g9 : Nat) (A2_35 : Option Addr) (k2_35 : Nat) (c2_35 : Nat) => [blk g8 [.int .i64 (N), .slice (some ⟨g_30, 0, none⟩) (es.length) (es.length)] 25, row 65 2 (some ⟨g_30, 0, none⟩) (es.length) (es.length) (cells fE es), blk g3 [.int .i64 (s1), .int .i64 (s2), .int .i64 (s3), .int .i64 (s4)] 52, blk g2 [.int .i64 (N), .slice A (es.length) (c)] 36, blk g6 [.int .i64 ((swV N es s1 s2 s3 s4).1), .slice A2_26 ((swV N es s1 s2 s3 s4).2.1.length) (k2_26)] 25, row 65 2 A2_26 ((swV N es s1 s2 s3 s4).2.1.length) (c2_26) (cells fE ((swV N es s1 s2 s3 s4).2.1)), blk g9 [.int .i64 ((swV N es s1 s2 s3 s4).1), .slice A2_35 ((swV N es s1 s2 s3 s4).2.1.length) (k2_35)] 25, row 65 2 A2_35 ((swV N es s1 s2 s3 s4).2.1.length) (c2_35) (cells fE ((swV N es s1 s2 s3 s4).2.1))]) (fun (g9 : Nat) (A2_35 : Option Addr) (k2_35 : Nat) (c2_35 : Nat) => (swV N es s1 s2 s3 s4).2.1.length ≤ k2_35) (fun K8 hK8 => ?_) ?_
      ·
        refine cw_draw mixO [8] (.cons (.head) (.cons (.head) (.cons (.head) (.cons (.head) (.cons (.head) (.cons (.head) (.nil))))))) rfl ?_
        refine wg_take (i := 0) rfl (ov_loadAgg (vs := [.int .i64 (N), .slice (some ⟨g_30, 0, none⟩) (es.length) (es.length)]) tI25 (holds_blk (List.Mem.head _)) rfl some_lit rfl rfl) rfl rfl rfl (by kernel_rfl) (by kernel_rfl) (by kernel_rfl) (by kernel_rfl) ?_
        refine wg_take (i := 1) rfl (ov_loadAgg (vs := [.int .i64 (s1), .int .i64 (s2), .int .i64 (s3), .int .i64 (s4)]) tI52 (holds_blk (List.Mem.tail _ (List.Mem.tail _ (List.Mem.head _)))) rfl some_lit rfl rfl) rfl rfl rfl (by kernel_rfl) (by kernel_rfl) (by kernel_rfl) (by kernel_rfl) ?_
        refine wg_two (i := 2) (j := 7) (by kernel_rfl) ?_ ?_
        ·
          refine go_r rfl rfl rfl rfl (or_call (fv := []) (vs := [.agg #[.int .i64 (s1), .int .i64 (s2), .int .i64 (s3), .int .i64 (s4)]]) (cs := []) en27 rfl rfl (call_v (fun w hw => toSwitch_c w s1 s2 s3 s4 ))) (kt0 rfl ?_)
          refine gk (.cons (.head) (.cons (.head) (.cons (.head) (.cons (.head) (.cons (.head) (.cons (.head) (.nil))))))) ?_
          refine wg_two (i := 3) (j := 7) (by kernel_rfl) ?_ ?_
          ·
            refine go_r rfl rfl rfl rfl (or_call (fv := []) (vs := [.agg #[.int .i64 (N), .slice (some ⟨g_30, 0, none⟩) (es.length) (es.length)], .agg #[.int .i64 (s1), .int .i64 (s2), .int .i64 (s3), .int .i64 (s4)]]) (cs := []) en28 rfl rfl (call_x3 (fun w hw => SwitchEdgesI_c w N (some ⟨g_30, 0, none⟩) es.length es.length es s1 s2 s3 s4 ((holds_row (List.Mem.tail _ (List.Mem.head _))) w hw) rfl (Nat.le_refl _) (by first | assumption | omega | (simp; omega)) (by first | assumption | omega | (simp; omega))))) (kt3p rfl (fun A2_35 k2_35 c2_35 h_35 => ?_))
            refine gk (.cons (.tail .head) (.cons (.tail .head) (.cons (.tail .head) (.cons (.tail .head) (.cons (.tail .head) (.cons (.tail .head) (.nil))))))) ?_
            refine wg_takep (i := 4) rfl (ov_move rfl) rfl rfl rfl (by kernel_rfl) (by kernel_rfl) (by kernel_rfl) rfl ?_
            refine wg_takep (i := 5) rfl (ov_extract rfl rfl) rfl rfl rfl (by kernel_rfl) (by kernel_rfl) (by kernel_rfl) rfl ?_
            refine wg_takep (i := 6) rfl (ov_extract rfl rfl) rfl rfl rfl (by kernel_rfl) (by kernel_rfl) (by kernel_rfl) rfl ?_
            refine wg_one (i := 7) (by kernel_rfl) ?_
            refine go_r rfl rfl rfl rfl (or_alloc tI25 rfl) (kt1 rfl (fun g9 => ?_))
            refine gk (.cons (.tail (.tail .head)) (.cons (.tail (.tail .head)) (.cons (.tail (.tail .head)) (.cons (.tail (.tail .head)) (.cons (.tail (.tail .head)) (.cons (.tail (.tail .head)) (.nil))))))) ?_
            refine wg_one (i := 8) (by kernel_rfl) ?_
            refine go_late0 rfl rfl rfl rfl (or_store_blk (vs := [.int .i64 ((swV N es s1 s2 s3 s4).1), .slice A2_35 ((swV N es s1 s2 s3 s4).2.1.length) (k2_35)]) (cs' := [.int .i64 ((swV N es s1 s2 s3 s4).1), .slice A2_35 ((swV N es s1 s2 s3 s4).2.1.length) (k2_35)]) (.head) tI25 rfl rfl rfl rfl (Nat.le_of_ble_eq_true rfl) rfl) (kn0 ?_)
            refine wa_r (i := 9) (by kernel_rfl) rfl rfl rfl (OpV.opR (ov_assign rfl)) (kt0 rfl ?_)
            refine wa_done (by kernel_rfl) ?_
            exact fun ac_ w_ hs_ => hK8 g9 A2_35 k2_35 c2_35 h_35 ac_ w_ (hs_.weaken (.cons rfl (.cons rfl (.cons rfl (.cons rfl (.cons rfl (.cons rfl (.cons rfl (.cons rfl (.nil))))))))) (.cons (.tail (.tail .head)) (.cons (.tail (.tail .head)) (.cons (.tail (.tail .head)) (.cons (.tail (.tail .head)) (.cons (.tail (.tail .head)) (.cons (.tail (.tail .head)) (.cons (.head) (.cons (.head) (.nil))))))))))
          ·
            refine go_r rfl rfl rfl rfl (or_alloc tI25 rfl) (kt1 rfl (fun g9 => ?_))
            refine gk (.cons (.tail .head) (.cons (.tail .head) (.cons (.tail .head) (.cons (.tail .head) (.cons (.tail .head) (.cons (.tail .head) (.nil))))))) ?_
            refine wg_one (i := 3) (by kernel_rfl) ?_
            refine go_r rfl rfl rfl rfl (or_call (fv := []) (vs := [.agg #[.int .i64 (N), .slice (some ⟨g_30, 0, none⟩) (es.length) (es.length)], .agg #[.int .i64 (s1), .int .i64 (s2), .int .i64 (s3), .int .i64 (s4)]]) (cs := []) en28 rfl rfl (call_x3 (fun w hw => SwitchEdgesI_c w N (some ⟨g_30, 0, none⟩) es.length es.length es s1 s2 s3 s4 ((holds_row (List.Mem.tail _ (List.Mem.tail _ (List.Mem.head _)))) w hw) rfl (Nat.le_refl _) (by first | assumption | omega | (simp; omega)) (by first | assumption | omega | (simp; omega))))) (kt3p rfl (fun A2_35 k2_35 c2_35 h_35 => ?_))
            refine gk (.cons (.tail (.tail .head)) (.cons (.tail (.tail .head)) (.cons (.tail (.tail .head)) (.cons (.tail (.tail .head)) (.cons (.tail (.tail .head)) (.cons (.tail (.tail .head)) (.nil))))))) ?_
            refine wg_takep (i := 4) rfl (ov_move rfl) rfl rfl rfl (by kernel_rfl) (by kernel_rfl) (by kernel_rfl) rfl ?_
            refine wg_takep (i := 5) rfl (ov_extract rfl rfl) rfl rfl rfl (by kernel_rfl) (by kernel_rfl) (by kernel_rfl) rfl ?_
            refine wg_takep (i := 6) rfl (ov_extract rfl rfl) rfl rfl rfl (by kernel_rfl) (by kernel_rfl) (by kernel_rfl) rfl ?_
            refine wg_one (i := 8) (by kernel_rfl) ?_
            refine go_late0 rfl rfl rfl rfl (or_store_blk (vs := [.int .i64 ((swV N es s1 s2 s3 s4).1), .slice A2_35 ((swV N es s1 s2 s3 s4).2.1.length) (k2_35)]) (cs' := [.int .i64 ((swV N es s1 s2 s3 s4).1), .slice A2_35 ((swV N es s1 s2 s3 s4).2.1.length) (k2_35)]) (.tail .head) tI25 rfl rfl rfl rfl (Nat.le_of_ble_eq_true rfl) rfl) (kn0 ?_)
            refine wa_r (i := 9) (by kernel_rfl) rfl rfl rfl (OpV.opR (ov_assign rfl)) (kt0 rfl ?_)
            refine wa_done (by kernel_rfl) ?_
            exact fun ac_ w_ hs_ => hK8 g9 A2_35 k2_35 c2_35 h_35 ac_ w_ (hs_.weaken (.cons rfl (.cons rfl (.cons rfl (.cons rfl (.cons rfl (.cons rfl (.cons rfl (.cons rfl (.nil))))))))) (.cons (.tail (.tail .head)) (.cons (.tail (.tail .head)) (.cons (.tail (.tail .head)) (.cons (.tail (.tail .head)) (.cons (.tail (.tail .head)) (.cons (.tail (.tail .head)) (.cons (.head) (.cons (.head) (.nil))))))))))
        ·
          refine go_r rfl rfl rfl rfl (or_alloc tI25 rfl) (kt1 rfl (fun g9 => ?_))
          refine gk (.cons (.tail .head) (.cons (.tail .head) (.cons (.tail .head) (.cons (.tail .head) (.cons (.tail .head) (.cons (.tail .head) (.nil))))))) ?_
          refine wg_one (i := 2) (by kernel_rfl) ?_
          refine go_r rfl rfl rfl rfl (or_call (fv := []) (vs := [.agg #[.int .i64 (s1), .int .i64 (s2), .int .i64 (s3), .int .i64 (s4)]]) (cs := []) en27 rfl rfl (call_v (fun w hw => toSwitch_c w s1 s2 s3 s4 ))) (kt0 rfl ?_)
          refine gk (.cons (.tail .head) (.cons (.tail .head) (.cons (.tail .head) (.cons (.tail .head) (.cons (.tail .head) (.cons (.tail .head) (.nil))))))) ?_
          refine wg_one (i := 3) (by kernel_rfl) ?_
          refine go_r rfl rfl rfl rfl (or_call (fv := []) (vs := [.agg #[.int .i64 (N), .slice (some ⟨g_30, 0, none⟩) (es.length) (es.length)], .agg #[.int .i64 (s1), .int .i64 (s2), .int .i64 (s3), .int .i64 (s4)]]) (cs := []) en28 rfl rfl (call_x3 (fun w hw => SwitchEdgesI_c w N (some ⟨g_30, 0, none⟩) es.length es.length es s1 s2 s3 s4 ((holds_row (List.Mem.tail _ (List.Mem.tail _ (List.Mem.head _)))) w hw) rfl (Nat.le_refl _) (by first | assumption | omega | (simp; omega)) (by first | assumption | omega | (simp; omega))))) (kt3p rfl (fun A2_35 k2_35 c2_35 h_35 => ?_))
          refine gk (.cons (.tail (.tail .head)) (.cons (.tail (.tail .head)) (.cons (.tail (.tail .head)) (.cons (.tail (.tail .head)) (.cons (.tail (.tail .head)) (.cons (.tail (.tail .head)) (.nil))))))) ?_
          refine wg_takep (i := 4) rfl (ov_move rfl) rfl rfl rfl (by kernel_rfl) (by kernel_rfl) (by kernel_rfl) rfl ?_
          refine wg_takep (i := 5) rfl (ov_extract rfl rfl) rfl rfl rfl (by kernel_rfl) (by kernel_rfl) (by kernel_rfl) rfl ?_
          refine wg_takep (i := 6) rfl (ov_extract rfl rfl) rfl rfl rfl (by kernel_rfl) (by kernel_rfl) (by kernel_rfl) rfl ?_
          refine wg_one (i := 8) (by kernel_rfl) ?_
          refine go_late0 rfl rfl rfl rfl (or_store_blk (vs := [.int .i64 ((swV N es s1 s2 s3 s4).1), .slice A2_35 ((swV N es s1 s2 s3 s4).2.1.length) (k2_35)]) (cs' := [.int .i64 ((swV N es s1 s2 s3 s4).1), .slice A2_35 ((swV N es s1 s2 s3 s4).2.1.length) (k2_35)]) (.tail .head) tI25 rfl rfl rfl rfl (Nat.le_of_ble_eq_true rfl) rfl) (kn0 ?_)
          refine wa_r (i := 9) (by kernel_rfl) rfl rfl rfl (OpV.opR (ov_assign rfl)) (kt0 rfl ?_)
          refine wa_done (by kernel_rfl) ?_
          exact fun ac_ w_ hs_ => hK8 g9 A2_35 k2_35 c2_35 h_35 ac_ w_ (hs_.weaken (.cons rfl (.cons rfl (.cons rfl (.cons rfl (.cons rfl (.cons rfl (.cons rfl (.cons rfl (.nil))))))))) (.cons (.tail (.tail .head)) (.cons (.tail (.tail .head)) (.cons (.tail (.tail .head)) (.cons (.tail (.tail .head)) (.cons (.tail (.tail .head)) (.cons (.tail (.tail .head)) (.cons (.head) (.cons (.head) (.nil))))))))))
      ·
        intro g9 A2_35 k2_35 c2_35 hz8
        refine cw_seq ?_
        refine cw_seq ?_
        refine cw_region ?_
        refine wl_v (ov_loadAgg (vs := [.int .i64 ((swV N es s1 s2 s3 s4).1), .slice A2_35 ((swV N es s1 s2 s3 s4).2.1.length) (k2_35)]) tI25 (holds_blk (List.Mem.tail _ (List.Mem.tail _ (List.Mem.tail _ (List.Mem.tail _ (List.Mem.tail _ (List.Mem.tail _ (List.Mem.head _)))))))) rfl some_lit rfl rfl) rfl rfl rfl ?_
        refine wl_v (ov_loadAgg (vs := [.int .i64 ((swV N es s1 s2 s3 s4).1), .slice A2_26 ((swV N es s1 s2 s3 s4).2.1.length) (k2_26)]) tI25 (holds_blk (List.Mem.tail _ (List.Mem.tail _ (List.Mem.tail _ (List.Mem.tail _ (List.Mem.head _)))))) rfl some_lit rfl rfl) rfl rfl rfl ?_
        refine wl_r (or_call (fv := []) (vs := [.agg #[.int .i64 ((swV N es s1 s2 s3 s4).1), .slice A2_35 ((swV N es s1 s2 s3 s4).2.1.length) (k2_35)], .agg #[.int .i64 ((swV N es s1 s2 s3 s4).1), .slice A2_26 ((swV N es s1 s2 s3 s4).2.1.length) (k2_26)]]) (cs := []) en18 rfl rfl (call_v (fun w hw => eqGraph_c w ((swV N es s1 s2 s3 s4).1) A2_35 ((swV N es s1 s2 s3 s4).2.1.length) k2_35 ((swV N es s1 s2 s3 s4).2.1) ((swV N es s1 s2 s3 s4).1) A2_26 ((swV N es s1 s2 s3 s4).2.1.length) k2_26 ((swV N es s1 s2 s3 s4).2.1) ((holds_row (List.Mem.tail _ (List.Mem.tail _ (List.Mem.tail _ (List.Mem.tail _ (List.Mem.tail _ (List.Mem.tail _ (List.Mem.tail _ (List.Mem.head _))))))))) w hw) rfl hz8 ((holds_row (List.Mem.tail _ (List.Mem.tail _ (List.Mem.tail _ (List.Mem.tail _ (List.Mem.tail _ (List.Mem.head _))))))) w hw) rfl hz6 (by first | assumption | omega | (simp; omega))))) rfl rfl (kt_if rfl (fun c40 => ?_) (fun c40 => ?_))
        ·
          refine wl_v (ov_not rfl) rfl rfl rfl ?_
          refine wl_v (ov_move rfl) rfl rfl rfl ?_
          refine wl_go rfl rfl ?_
          refine wl_v (ov_move rfl) rfl rfl rfl ?_
          refine wl_go rfl rfl ?_
          refine wl_v (ov_move rfl) rfl rfl rfl ?_
          refine wl_go rfl rfl ?_
          refine wl_if (OpV.dec (ov_neqb uI4 rfl rfl)) rfl rfl rfl (fun c45 => ?_) (fun c45 => ?_)
          ·
            first | (exfalso; omega) | exact absurd rfl c45 | exact absurd (by simp) c45 | (exfalso; simp at c45; omega) | exact absurd ⟨rfl, rfl⟩ c45 | (simp at c45)
          ·
            refine wl_v (ov_pick_f rfl rfl) rfl rfl rfl ?_
            refine wl_nil ?_
            refine ce_then ?_
            refine cw_false rfl ?_
            refine cw_skip ?_
            refine ce_then ?_
            refine cw_seq ?_
            refine cw_seq ?_
            refine cw_draw mixO [] (.cons (.head) (.cons (.head) (.cons (.head) (.cons (.head) (.cons (.head) (.cons (.head) (.cons (.head) (.cons (.head) (.nil))))))))) rfl ?_
            refine wg_take (i := 0) rfl (ov_loadAgg (vs := [.int .i64 (N), .slice (some ⟨g_30, 0, none⟩) (es.length) (es.length)]) tI25 (holds_blk (List.Mem.head _)) rfl some_lit rfl rfl) rfl rfl rfl (by kernel_rfl) (by kernel_rfl) (by kernel_rfl) (by kernel_rfl) ?_
            refine wg_take (i := 1) rfl (ov_loadAgg (vs := [.int .i64 (N), .slice A (es.length) (c)]) tI36 (holds_blk (List.Mem.tail _ (List.Mem.tail _ (List.Mem.tail _ (List.Mem.head _))))) rfl some_lit rfl rfl) rfl rfl rfl (by kernel_rfl) (by kernel_rfl) (by kernel_rfl) (by kernel_rfl) ?_
            refine wg_one (i := 2) (by kernel_rfl) ?_
            refine go_r rfl rfl rfl rfl (or_call (fv := []) (vs := [.agg #[.int .i64 (N), .slice A (es.length) (c)]]) (cs := []) en15 rfl rfl (call_x1 (fun w hw => toGraph_c w N A es.length c es ((holds_old oA) w hw) rfl lA (by first | assumption | omega | (simp; omega))))) (kt1p rfl (fun g_49 h_49 => ?_))
            refine gk (.cons (.tail .head) (.cons (.tail .head) (.cons (.tail .head) (.cons (.tail .head) (.cons (.tail .head) (.cons (.tail .head) (.cons (.tail .head) (.cons (.tail .head) (.nil))))))))) ?_
            refine wg_one (i := 3) (by kernel_rfl) ?_
            refine go_r rfl rfl rfl rfl (or_call (fv := []) (vs := [.agg #[.int .i64 (N), .slice (some ⟨g_30, 0, none⟩) (es.length) (es.length)], .agg #[.int .i64 (N), .slice (some ⟨g_49, 0, none⟩) (es.length) (es.length)]]) (cs := []) en18 rfl rfl (call_v (fun w hw => eqGraph_c w N (some ⟨g_30, 0, none⟩) es.length es.length es N (some ⟨g_49, 0, none⟩) es.length es.length es ((holds_row (List.Mem.tail _ (List.Mem.tail _ (List.Mem.head _)))) w hw) rfl (Nat.le_refl _) ((holds_row (List.Mem.head _)) w hw) rfl (Nat.le_refl _) (by first | assumption | omega | (simp; omega))))) (kt_if rfl (fun c50 => ?_) (fun c50 => ?_))
            ·
              refine gk (.cons (.tail .head) (.cons (.tail .head) (.cons (.tail .head) (.cons (.tail .head) (.cons (.tail .head) (.cons (.tail .head) (.cons (.tail .head) (.cons (.tail .head) (.nil))))))))) ?_
              refine wg_takep (i := 4) rfl (ov_not rfl) rfl rfl rfl (by kernel_rfl) (by kernel_rfl) (by kernel_rfl) rfl ?_
              refine wg_done (by kernel_rfl) ?_
              refine ce_then ?_
              refine cw_false rfl ?_
              refine cw_skip ?_
              refine ce_then ?_
              refine cw_seq ?_
              refine cw_region ?_
              refine wl_v (ov_assign rfl) rfl rfl rfl ?_
              refine wl_nil ?_
              refine ce_then ?_
              refine cw_seq ?_
              refine cw_region ?_
              refine wl_v (ov_loadAgg (vs := [.int .i64 (N), .slice (some ⟨g_30, 0, none⟩) (es.length) (es.length)]) tI25 (holds_blk (List.Mem.tail _ (List.Mem.head _))) rfl some_lit rfl rfl) rfl rfl rfl ?_
              refine wl_v (ov_move rfl) rfl rfl rfl ?_
              refine wl_r (or_call (fv := []) (vs := [.agg #[.int .i64 (N), .slice (some ⟨g_30, 0, none⟩) (es.length) (es.length)], .int .i64 (1)]) (cs := []) en19 rfl rfl (call_m (.tail (.tail .head)) (fun w hw => markGraph_c w _ _ _ (some ⟨g_30, 0, none⟩) es.length es.length es.length es 1 N rfl (Nat.le_refl _) (by first | assumption | omega | (simp; omega)) (by first | assumption | omega | (simp; omega)) hw))) rfl rfl (kt0 rfl ?_)
              refine wl_v (ov_assign rfl) rfl rfl rfl ?_
              refine wl_nil ?_
              refine ce_then ?_
              refine cw_seq ?_
              refine cw_seq ?_
              refine cw_region ?_
              refine wl_v (ov_move rfl) rfl rfl rfl ?_
              refine wl_if (ov_lss rfl rfl) rfl rfl rfl (fun c56 => ?_) (fun c56 => ?_)
              ·
                first | (exfalso; omega) | exact absurd rfl c56 | exact absurd (by simp) c56 | (exfalso; simp at c56; omega) | exact absurd ⟨rfl, rfl⟩ c56 | (simp at c56)
              ·
                refine wl_v (ov_move rfl) rfl rfl rfl ?_
                refine wl_go rfl rfl ?_
                refine wl_v (ov_loadAgg (vs := [.int .i64 ((swV N es s1 s2 s3 s4).1), .slice A2_35 ((swV N es s1 s2 s3 s4).2.1.length) (k2_35)]) tI25 (holds_blk (List.Mem.tail _ (List.Mem.tail _ (List.Mem.tail _ (List.Mem.tail _ (List.Mem.tail _ (List.Mem.tail _ (List.Mem.tail _ (List.Mem.head _))))))))) rfl some_lit rfl rfl) rfl rfl rfl ?_
                refine wl_go rfl rfl ?_
                refine wl_v (ov_loadAgg (vs := [.int .i64 ((swV N es s1 s2 s3 s4).1), .slice A2_26 ((swV N es s1 s2 s3 s4).2.1.length) (k2_26)]) tI25 (holds_blk (List.Mem.tail _ (List.Mem.tail _ (List.Mem.tail _ (List.Mem.tail _ (List.Mem.tail _ (List.Mem.head _))))))) rfl some_lit rfl rfl) rfl rfl rfl ?_
                refine wl_go rfl rfl ?_
                refine wl_r (or_call (fv := []) (vs := [.agg #[.int .i64 ((swV N es s1 s2 s3 s4).1), .slice A2_35 ((swV N es s1 s2 s3 s4).2.1.length) (k2_35)], .agg #[.int .i64 ((swV N es s1 s2 s3 s4).1), .slice A2_26 ((swV N es s1 s2 s3 s4).2.1.length) (k2_26)]]) (cs := []) en18 rfl rfl (call_v (fun w hw => eqGraph_c w ((swV N es s1 s2 s3 s4).1) A2_35 ((swV N es s1 s2 s3 s4).2.1.length) k2_35 ((swV N es s1 s2 s3 s4).2.1) ((swV N es s1 s2 s3 s4).1) A2_26 ((swV N es s1 s2 s3 s4).2.1.length) k2_26 ((swV N es s1 s2 s3 s4).2.1) ((holds_row (List.Mem.tail _ (List.Mem.tail _ (List.Mem.tail _ (List.Mem.tail _ (List.Mem.tail _ (List.Mem.tail _ (List.Mem.tail _ (List.Mem.tail _ (List.Mem.head _)))))))))) w hw) rfl hz8 ((holds_row (List.Mem.tail _ (List.Mem.tail _ (List.Mem.tail _ (List.Mem.tail _ (List.Mem.tail _ (List.Mem.tail _ (List.Mem.head _)))))))) w hw) rfl hz6 (by first | assumption | omega | (simp; omega))))) rfl rfl (kt_if rfl (fun c60 => ?_) (fun c60 => ?_))
                ·
                  refine wl_go rfl rfl ?_
                  refine wl_v (ov_not rfl) rfl rfl rfl ?_
                  refine wl_v (ov_pick_f rfl rfl) rfl rfl rfl ?_
                  refine wl_v (ov_move rfl) rfl rfl rfl ?_
                  refine wl_go rfl rfl ?_
                  refine wl_v (ov_move rfl) rfl rfl rfl ?_
                  refine wl_go rfl rfl ?_
                  refine wl_v (ov_move rfl) rfl rfl rfl ?_
                  refine wl_go rfl rfl ?_
                  refine wl_if (OpV.dec (ov_neqb uI4 rfl rfl)) rfl rfl rfl (fun c66 => ?_) (fun c66 => ?_)
                  ·
                    first | (exfalso; omega) | exact absurd rfl c66 | exact absurd (by simp) c66 | (exfalso; simp at c66; omega) | exact absurd ⟨rfl, rfl⟩ c66 | (simp at c66)
                  ·
                    refine wl_v (ov_pick_f rfl rfl) rfl rfl rfl ?_
                    refine wl_nil ?_
                    refine ce_then ?_
                    refine cw_false rfl ?_
                    refine cw_skip ?_
                    refine ce_then ?_
                    refine cw_seq ?_
                    refine cw_region ?_
                    refine wl_v (ov_assign rfl) rfl rfl rfl ?_
                    refine wl_nil ?_
                    refine ce_then ?_
                    refine cw_seq ?_
                    refine cw_region ?_
                    refine wl_v (ov_loadAgg (vs := [.int .i64 ((swV N es s1 s2 s3 s4).1), .slice A2_35 ((swV N es s1 s2 s3 s4).2.1.length) (k2_35)]) tI25 (holds_blk (List.Mem.tail _ (List.Mem.tail _ (List.Mem.tail _ (List.Mem.tail _ (List.Mem.tail _ (List.Mem.tail _ (List.Mem.tail _ (List.Mem.head _))))))))) rfl some_lit rfl rfl) rfl rfl rfl ?_
                    refine wl_v (ov_move rfl) rfl rfl rfl ?_
                    refine wl_r (or_call (fv := []) (vs := [.agg #[.int .i64 ((swV N es s1 s2 s3 s4).1), .slice A2_35 ((swV N es s1 s2 s3 s4).2.1.length) (k2_35)], .int .i64 (1)]) (cs := []) en19 rfl rfl (call_m (.tail (.tail (.tail (.tail (.tail (.tail (.tail (.tail .head)))))))) (fun w hw => markGraph_c w _ _ _ A2_35 ((swV N es s1 s2 s3 s4).2.1.length) c2_35 k2_35 ((swV N es s1 s2 s3 s4).2.1) 1 ((swV N es s1 s2 s3 s4).1) rfl hz8 (by first | assumption | omega | (simp; omega)) (by first | assumption | omega | (simp; omega)) hw))) rfl rfl (kt0 rfl ?_)
                    refine wl_v (ov_assign rfl) rfl rfl rfl ?_
                    refine wl_nil ?_
                    refine ce_then ?_
                    refine cw_seq ?_
                    refine cw_region ?_
                    refine wl_v (ov_assign rfl) rfl rfl rfl ?_
                    refine wl_nil ?_
                    refine ce_then ?_
                    refine cw_seq ?_
                    refine cw_region ?_
                    refine wl_v (ov_loadAgg (vs := [.int .i64 ((swV N es s1 s2 s3 s4).1), .slice A2_35 ((swV N es s1 s2 s3 s4).2.1.length) (k2_35)]) tI25 (holds_blk (List.Mem.tail _ (List.Mem.tail _ (List.Mem.tail _ (List.Mem.tail _ (List.Mem.tail _ (List.Mem.tail _ (List.Mem.tail _ (List.Mem.tail _ (List.Mem.head _)))))))))) rfl some_lit rfl rfl) rfl rfl rfl ?_
                    refine wl_v (ov_move rfl) rfl rfl rfl ?_
                    refine wl_r (or_call (fv := []) (vs := [.agg #[.int .i64 ((swV N es s1 s2 s3 s4).1), .slice A2_35 ((swV N es s1 s2 s3 s4).2.1.length) (k2_35)], .int .i64 (1)]) (cs := []) en25 rfl rfl (call_v (fun w hw => heldGraph_c w ((swV N es s1 s2 s3 s4).1) A2_35 ((swV N es s1 s2 s3 s4).2.1.length) k2_35 (marksE 1 ((swV N es s1 s2 s3 s4).2.1.length)) 1 ((holds_row (List.Mem.head _)) w hw) (marksE_length _ _) hz8 (by first | omega | (rw [marksE_length]; omega)) (by first | assumption | omega | (simp; omega))))) rfl rfl (kt0 rfl ?_)
                    refine wl_v (ov_assign rfl) rfl rfl rfl ?_
                    refine wl_nil ?_
                    refine ce_then ?_
                    refine cw_seq ?_
                    refine cw_seq ?_
                    refine cw_region ?_
                    refine wl_v (ov_move rfl) rfl rfl rfl ?_
                    refine wl_if (ov_lss rfl rfl) rfl rfl rfl (fun c75 => ?_) (fun c75 => ?_)
                    ·
                      first | (exfalso; omega) | exact absurd rfl c75 | exact absurd (by simp) c75 | (exfalso; simp at c75; omega) | exact absurd ⟨rfl, rfl⟩ c75 | (simp at c75)
                    ·
                      refine wl_nil ?_
                      refine ce_then ?_
                      refine cw_false rfl ?_
                      refine cw_skip ?_
                      refine ce_then ?_
                      refine cw_seq ?_
                      refine cw_seq ?_
                      refine cw_region ?_
                      refine wl_v (ov_move rfl) rfl rfl rfl ?_
                      refine wl_v (ov_move rfl) rfl rfl rfl ?_
                      refine wl_if (ov_neq rfl rfl) rfl rfl rfl (fun c78 => ?_) (fun c78 => ?_)
                      ·
                        first | (exfalso; omega) | exact absurd rfl c78 | exact absurd (by simp) c78 | (exfalso; simp at c78; omega) | exact absurd ⟨rfl, rfl⟩ c78 | (simp at c78)
                      ·
                        refine wl_nil ?_
                        refine ce_then ?_
                        refine cw_false rfl ?_
                        refine cw_skip ?_
                        refine ce_then ?_
                        refine cw_cut4 (fun (g14 : Nat) (A2_84 : Option Addr) (k2_84 : Nat) (c2_84 : Nat) => [(4, .bool false), (6, elp (some ⟨g6, 0, none⟩) (0)), (7, .bool ((swV N es s1 s2 s3 s4).2.2)), (9, elp (some ⟨g9, 0, none⟩) (0)), (12, .int .i64 (1 + 2 * (((swV N es s1 s2 s3 s4).2.1.length) : Int))), (13, .int .i64 (if (marksE 1 ((swV N es s1 s2 s3 s4).2.1.length)) = marksE 1 ((swV N es s1 s2 s3 s4).2.1.length) then 1 + 2 * (((swV N es s1 s2 s3 s4).2.1.length) : Int) else -1)), (14, elp (some ⟨g14, 0, none⟩) (0)), (15, .bool ((swV N es s1 s2 s3 s4).2.2))]) (fun (g14 : Nat) (A2_84 : Option Addr) (k2_84 : Nat) (c2_84 : Nat) => [row 65 2 A2_35 ((swV N es s1 s2 s3 s4).2.1.length) (c2_35) (cells fE (marksE 1 ((swV N es s1 s2 s3 s4).2.1.length))), row 65 2 (some ⟨g_30, 0, none⟩) (es.length) (es.length) (cells fE (marksE 1 es.length)), row 65 2 (some ⟨g_49, 0, none⟩) (es.length) (es.length) (cells fE es), blk g8 [.int .i64 (N), .slice (some ⟨g_30, 0, none⟩) (es.length) (es.length)] 25, blk g3 [.int .i64 (s1), .int .i64 (s2), .int .i64 (s3), .int .i64 (s4)] 52, blk g2 [.int .i64 (N), .slice A (es.length) (c)] 36, blk g6 [.int .i64 ((swV N es s1 s2 s3 s4).1), .slice A2_26 ((swV N es s1 s2 s3 s4).2.1.length) (k2_26)] 25, row 65 2 A2_26 ((swV N es s1 s2 s3 s4).2.1.length) (c2_26) (cells fE ((swV N es s1 s2 s3 s4).2.1)), blk g9 [.int .i64 ((swV N es s1 s2 s3 s4).1), .slice A2_35 ((swV N es s1 s2 s3 s4).2.1.length) (k2_35)] 25, blk g14 [.int .i64 ((swV N es s1 s2 s3 s4).1), .slice A2_84 ((swV N es s1 s2 s3 s4).2.1.length) (k2_84)] 25, row 65 2 A2_84 ((swV N es s1 s2 s3 s4).2.1.length) (c2_84) (cells fE ((swV N es s1 s2 s3 s4).2.1))]) (fun (g14 : Nat) (A2_84 : Option Addr) (k2_84 : Nat) (c2_84 : Nat) => (swV N es s1 s2 s3 s4).2.1.length ≤ k2_84) (fun K25 hK25 => ?_) ?_
                        ·
                          refine cw_draw mixO [9] (.cons (.head) (.cons (.head) (.cons (.head) (.cons (.head) (.cons (.head) (.cons (.head) (.cons (.head) (.cons (.head) (.cons (.head) (.nil)))))))))) rfl ?_
                          refine wg_take (i := 0) rfl (ov_loadAgg (vs := [.int .i64 (N), .slice A (es.length) (c)]) tI36 (holds_blk (List.Mem.tail _ (List.Mem.tail _ (List.Mem.tail _ (List.Mem.tail _ (List.Mem.tail _ (List.Mem.head _))))))) rfl some_lit rfl rfl) rfl rfl rfl (by kernel_rfl) (by kernel_rfl) (by kernel_rfl) (by kernel_rfl) ?_
                          refine wg_take (i := 2) rfl (ov_loadAgg (vs := [.int .i64 (s1), .int .i64 (s2), .int .i64 (s3), .int .i64 (s4)]) tI52 (holds_blk (List.Mem.tail _ (List.Mem.tail _ (List.Mem.tail _ (List.Mem.tail _ (List.Mem.head _)))))) rfl some_lit rfl rfl) rfl rfl rfl (by kernel_rfl) (by kernel_rfl) (by kernel_rfl) (by kernel_rfl) ?_
                          refine wg_two (i := 1) (j := 8) (by kernel_rfl) ?_ ?_
                          ·
                            refine go_r rfl rfl rfl rfl (or_call (fv := []) (vs := [.agg #[.int .i64 (N), .slice A (es.length) (c)]]) (cs := []) en15 rfl rfl (call_x1 (fun w hw => toGraph_c w N A es.length c es ((holds_old oA) w hw) rfl lA (by first | assumption | omega | (simp; omega))))) (kt1p rfl (fun g_81 h_81 => ?_))
                            refine gk (.cons (.tail .head) (.cons (.tail .head) (.cons (.tail .head) (.cons (.tail .head) (.cons (.tail .head) (.cons (.tail .head) (.cons (.tail .head) (.cons (.tail .head) (.cons (.tail .head) (.nil)))))))))) ?_
                            refine wg_two (i := 3) (j := 8) (by kernel_rfl) ?_ ?_
                            ·
                              refine go_r rfl rfl rfl rfl (or_call (fv := []) (vs := [.agg #[.int .i64 (s1), .int .i64 (s2), .int .i64 (s3), .int .i64 (s4)]]) (cs := []) en27 rfl rfl (call_v (fun w hw => toSwitch_c w s1 s2 s3 s4 ))) (kt0 rfl ?_)
                              refine gk (.cons (.tail .head) (.cons (.tail .head) (.cons (.tail .head) (.cons (.tail .head) (.cons (.tail .head) (.cons (.tail .head) (.cons (.tail .head) (.cons (.tail .head) (.cons (.tail .head) (.nil)))))))))) ?_
                              refine wg_two (i := 4) (j := 8) (by kernel_rfl) ?_ ?_
                              ·
                                refine go_r rfl rfl rfl rfl (or_call (fv := []) (vs := [.agg #[.int .i64 (N), .slice (some ⟨g_81, 0, none⟩) (es.length) (es.length)], .agg #[.int .i64 (s1), .int .i64 (s2), .int .i64 (s3), .int .i64 (s4)]]) (cs := []) en28 rfl rfl (call_x3 (fun w hw => SwitchEdgesI_c w N (some ⟨g_81, 0, none⟩) es.length es.length es s1 s2 s3 s4 ((holds_row (List.Mem.head _)) w hw) rfl (Nat.le_refl _) (by first | assumption | omega | (simp; omega)) (by first | assumption | omega | (simp; omega))))) (kt3p rfl (fun A2_84 k2_84 c2_84 h_84 => ?_))
                                refine gk (.cons (.tail (.tail .head)) (.cons (.tail (.tail .head)) (.cons (.tail (.tail .head)) (.cons (.tail (.tail .head)) (.cons (.tail (.tail .head)) (.cons (.tail (.tail .head)) (.cons (.tail (.tail .head)) (.cons (.tail (.tail .head)) (.cons (.tail (.tail .head)) (.nil)))))))))) ?_
                                refine wg_takep (i := 5) rfl (ov_move rfl) rfl rfl rfl (by kernel_rfl) (by kernel_rfl) (by kernel_rfl) rfl ?_
                                refine wg_takep (i := 6) rfl (ov_extract rfl rfl) rfl rfl rfl (by kernel_rfl) (by kernel_rfl) (by kernel_rfl) rfl ?_
                                refine wg_takep (i := 7) rfl (ov_extract rfl rfl) rfl rfl rfl (by kernel_rfl) (by kernel_rfl) (by kernel_rfl) rfl ?_
                                refine wg_one (i := 8) (by kernel_rfl) ?_
                                refine go_r rfl rfl rfl rfl (or_alloc tI25 rfl) (kt1 rfl (fun g14 => ?_))
                                refine gk (.cons (.tail (.tail (.tail .head))) (.cons (.tail (.tail (.tail .head))) (.cons (.tail (.tail (.tail .head))) (.cons (.tail (.tail (.tail .head))) (.cons (.tail (.tail (.tail .head))) (.cons (.tail (.tail (.tail .head))) (.cons (.tail (.tail (.tail .head))) (.cons (.tail (.tail (.tail .head))) (.cons (.tail (.tail (.tail .head))) (.nil)))))))))) ?_
                                refine wg_one (i := 9) (by kernel_rfl) ?_
                                refine go_late0 rfl rfl rfl rfl (or_store_blk (vs := [.int .i64 ((swV N es s1 s2 s3 s4).1), .slice A2_84 ((swV N es s1 s2 s3 s4).2.1.length) (k2_84)]) (cs' := [.int .i64 ((swV N es s1 s2 s3 s4).1), .slice A2_84 ((swV N es s1 s2 s3 s4).2.1.length) (k2_84)]) (.head) tI25 rfl rfl rfl rfl (Nat.le_of_ble_eq_true rfl) rfl) (kn0 ?_)
                                refine wa_r (i := 10) (by kernel_rfl) rfl rfl rfl (OpV.opR (ov_assign rfl)) (kt0 rfl ?_)
                                refine wa_done (by kernel_rfl) ?_
                                exact fun ac_ w_ hs_ => hK25 g14 A2_84 k2_84 c2_84 h_84 ac_ w_ (hs_.weaken (.cons rfl (.cons rfl (.cons rfl (.cons rfl (.cons rfl (.cons rfl (.cons rfl (.cons rfl (.nil))))))))) (.cons (.tail (.tail (.tail .head))) (.cons (.tail (.tail (.tail .head))) (.cons (.tail (.tail (.tail .head))) (.cons (.tail (.tail (.tail .head))) (.cons (.tail (.tail (.tail .head))) (.cons (.tail (.tail (.tail .head))) (.cons (.tail (.tail (.tail .head))) (.cons (.tail (.tail (.tail .head))) (.cons (.tail (.tail (.tail .head))) (.cons (.head) (.cons (.head) (.nil)))))))))))))
                              ·
                                refine go_r rfl rfl rfl rfl (or_alloc tI25 rfl) (kt1 rfl (fun g14 => ?_))
                                refine gk (.cons (.tail (.tail .head)) (.cons (.tail (.tail .head)) (.cons (.tail (.tail .head)) (.cons (.tail (.tail .head)) (.cons (.tail (.tail .head)) (.cons (.tail (.tail .head)) (.cons (.tail (.tail .head)) (.cons (.tail (.tail .head)) (.cons (.tail (.tail .head)) (.nil)))))))))) ?_
                                refine wg_one (i := 4) (by kernel_rfl) ?_
                                refine go_r rfl rfl rfl rfl (or_call (fv := []) (vs := [.agg #[.int .i64 (N), .slice (some ⟨g_81, 0, none⟩) (es.length) (es.length)], .agg #[.int .i64 (s1), .int .i64 (s2), .int .i64 (s3), .int .i64 (s4)]]) (cs := []) en28 rfl rfl (call_x3 (fun w hw => SwitchEdgesI_c w N (some ⟨g_81, 0, none⟩) es.length es.length es s1 s2 s3 s4 ((holds_row (List.Mem.tail _ (List.Mem.head _))) w hw) rfl (Nat.le_refl _) (by first | assumption | omega | (simp; omega)) (by first | assumption | omega | (simp; omega))))) (kt3p rfl (fun A2_84 k2_84 c2_84 h_84 => ?_))
                                refine gk (.cons (.tail (.tail (.tail .head))) (.cons (.tail (.tail (.tail .head))) (.cons (.tail (.tail (.tail .head))) (.cons (.tail (.tail (.tail .head))) (.cons (.tail (.tail (.tail .head))) (.cons (.tail (.tail (.tail .head))) (.cons (.tail (.tail (.tail .head))) (.cons (.tail (.tail (.tail .head))) (.cons (.tail (.tail (.tail .head))) (.nil)))))))))) ?_
                                refine wg_takep (i := 5) rfl (ov_move rfl) rfl rfl rfl (by kernel_rfl) (by kernel_rfl) (by kernel_rfl) rfl ?_
                                refine wg_takep (i := 6) rfl (ov_extract rfl rfl) rfl rfl rfl (by kernel_rfl) (by kernel_rfl) (by kernel_rfl) rfl ?_
                                refine wg_takep (i := 7) rfl (ov_extract rfl rfl) rfl rfl rfl (by kernel_rfl) (by kernel_rfl) (by kernel_rfl) rfl ?_
                                refine wg_one (i := 9) (by kernel_rfl) ?_
                                refine go_late0 rfl rfl rfl rfl (or_store_blk (vs := [.int .i64 ((swV N es s1 s2 s3 s4).1), .slice A2_84 ((swV N es s1 s2 s3 s4).2.1.length) (k2_84)]) (cs' := [.int .i64 ((swV N es s1 s2 s3 s4).1), .slice A2_84 ((swV N es s1 s2 s3 s4).2.1.length) (k2_84)]) (.tail .head) tI25 rfl rfl rfl rfl (Nat.le_of_ble_eq_true rfl) rfl) (kn0 ?_)
                                refine wa_r (i := 10) (by kernel_rfl) rfl rfl rfl (OpV.opR (ov_assign rfl)) (kt0 rfl ?_)
                                refine wa_done (by kernel_rfl) ?_
                                exact fun ac_ w_ hs_ => hK25 g14 A2_84 k2_84 c2_84 h_84 ac_ w_ (hs_.weaken (.cons rfl (.cons rfl (.cons rfl (.cons rfl (.cons rfl (.cons rfl (.cons rfl (.cons rfl (.nil))))))))) (.cons (.tail (.tail (.tail .head))) (.cons (.tail (.tail (.tail .head))) (.cons (.tail (.tail (.tail .head))) (.cons (.tail (.tail (.tail .head))) (.cons (.tail (.tail (.tail .head))) (.cons (.tail (.tail (.tail .head))) (.cons (.tail (.tail (.tail .head))) (.cons (.tail (.tail (.tail .head))) (.cons (.tail (.tail (.tail .head))) (.cons (.head) (.cons (.head) (.nil)))))))))))))
                            ·
                              refine go_r rfl rfl rfl rfl (or_alloc tI25 rfl) (kt1 rfl (fun g14 => ?_))
                              refine gk (.cons (.tail (.tail .head)) (.cons (.tail (.tail .head)) (.cons (.tail (.tail .head)) (.cons (.tail (.tail .head)) (.cons (.tail (.tail .head)) (.cons (.tail (.tail .head)) (.cons (.tail (.tail .head)) (.cons (.tail (.tail .head)) (.cons (.tail (.tail .head)) (.nil)))))))))) ?_
                              refine wg_one (i := 3) (by kernel_rfl) ?_
                              refine go_r rfl rfl rfl rfl (or_call (fv := []) (vs := [.agg #[.int .i64 (s1), .int .i64 (s2), .int .i64 (s3), .int .i64 (s4)]]) (cs := []) en27 rfl rfl (call_v (fun w hw => toSwitch_c w s1 s2 s3 s4 ))) (kt0 rfl ?_)
                              refine gk (.cons (.tail (.tail .head)) (.cons (.tail (.tail .head)) (.cons (.tail (.tail .head)) (.cons (.tail (.tail .head)) (.cons (.tail (.tail .head)) (.cons (.tail (.tail .head)) (.cons (.tail (.tail .head)) (.cons (.tail (.tail .head)) (.cons (.tail (.tail .head)) (.nil)))))))))) ?_
                              refine wg_one (i := 4) (by kernel_rfl) ?_
                              refine go_r rfl rfl rfl rfl (or_call (fv := []) (vs := [.agg #[.int .i64 (N), .slice (some ⟨g_81, 0, none⟩) (es.length) (es.length)], .agg #[.int .i64 (s1), .int .i64 (s2), .int .i64 (s3), .int .i64 (s4)]]) (cs := []) en28 rfl rfl (call_x3 (fun w hw => SwitchEdgesI_c w N (some ⟨g_81, 0, none⟩) es.length es.length es s1 s2 s3 s4 ((holds_row (List.Mem.tail _ (List.Mem.head _))) w hw) rfl (Nat.le_refl _) (by first | assumption | omega | (simp; omega)) (by first | assumption | omega | (simp; omega))))) (kt3p rfl (fun A2_84 k2_84 c2_84 h_84 => ?_))
                              refine gk (.cons (.tail (.tail (.tail .head))) (.cons (.tail (.tail (.tail .head))) (.cons (.tail (.tail (.tail .head))) (.cons (.tail (.tail (.tail .head))) (.cons (.tail (.tail (.tail .head))) (.cons (.tail (.tail (.tail .head))) (.cons (.tail (.tail (.tail .head))) (.cons (.tail (.tail (.tail .head))) (.cons (.tail (.tail (.tail .head))) (.nil)))))))))) ?_
                              refine wg_takep (i := 5) rfl (ov_move rfl) rfl rfl rfl (by kernel_rfl) (by kernel_rfl) (by kernel_rfl) rfl ?_
                              refine wg_takep (i := 6) rfl (ov_extract rfl rfl) rfl rfl rfl (by kernel_rfl) (by kernel_rfl) (by kernel_rfl) rfl ?_
                              refine wg_takep (i := 7) rfl (ov_extract rfl rfl) rfl rfl rfl (by kernel_rfl) (by kernel_rfl) (by kernel_rfl) rfl ?_
                              refine wg_one (i := 9) (by kernel_rfl) ?_
                              refine go_late0 rfl rfl rfl rfl (or_store_blk (vs := [.int .i64 ((swV N es s1 s2 s3 s4).1), .slice A2_84 ((swV N es s1 s2 s3 s4).2.1.length) (k2_84)]) (cs' := [.int .i64 ((swV N es s1 s2 s3 s4).1), .slice A2_84 ((swV N es s1 s2 s3 s4).2.1.length) (k2_84)]) (.tail .head) tI25 rfl rfl rfl rfl (Nat.le_of_ble_eq_true rfl) rfl) (kn0 ?_)
                              refine wa_r (i := 10) (by kernel_rfl) rfl rfl rfl (OpV.opR (ov_assign rfl)) (kt0 rfl ?_)
                              refine wa_done (by kernel_rfl) ?_
                              exact fun ac_ w_ hs_ => hK25 g14 A2_84 k2_84 c2_84 h_84 ac_ w_ (hs_.weaken (.cons rfl (.cons rfl (.cons rfl (.cons rfl (.cons rfl (.cons rfl (.cons rfl (.cons rfl (.nil))))))))) (.cons (.tail (.tail (.tail .head))) (.cons (.tail (.tail (.tail .head))) (.cons (.tail (.tail (.tail .head))) (.cons (.tail (.tail (.tail .head))) (.cons (.tail (.tail (.tail .head))) (.cons (.tail (.tail (.tail .head))) (.cons (.tail (.tail (.tail .head))) (.cons (.tail (.tail (.tail .head))) (.cons (.tail (.tail (.tail .head))) (.cons (.head) (.cons (.head) (.nil)))))))))))))
                          ·
                            refine go_r rfl rfl rfl rfl (or_alloc tI25 rfl) (kt1 rfl (fun g14 => ?_))
                            refine gk (.cons (.tail .head) (.cons (.tail .head) (.cons (.tail .head) (.cons (.tail .head) (.cons (.tail .head) (.cons (.tail .head) (.cons (.tail .head) (.cons (.tail .head) (.cons (.tail .head) (.nil)))))))))) ?_
                            refine wg_one (i := 1) (by kernel_rfl) ?_
                            refine go_r rfl rfl rfl rfl (or_call (fv := []) (vs := [.agg #[.int .i64 (N), .slice A (es.length) (c)]]) (cs := []) en15 rfl rfl (call_x1 (fun w hw => toGraph_c w N A es.length c es ((holds_old oA) w hw) rfl lA (by first | assumption | omega | (simp; omega))))) (kt1p rfl (fun g_81 h_81 => ?_))
                            refine gk (.cons (.tail (.tail .head)) (.cons (.tail (.tail .head)) (.cons (.tail (.tail .head)) (.cons (.tail (.tail .head)) (.cons (.tail (.tail .head)) (.cons (.tail (.tail .head)) (.cons (.tail (.tail .head)) (.cons (.tail (.tail .head)) (.cons (.tail (.tail .head)) (.nil)))))))))) ?_
                            refine wg_one (i := 3) (by kernel_rfl) ?_
                            refine go_r rfl rfl rfl rfl (or_call (fv := []) (vs := [.agg #[.int .i64 (s1), .int .i64 (s2), .int .i64 (s3), .int .i64 (s4)]]) (cs := []) en27 rfl rfl (call_v (fun w hw => toSwitch_c w s1 s2 s3 s4 ))) (kt0 rfl ?_)
                            refine gk (.cons (.tail (.tail .head)) (.cons (.tail (.tail .head)) (.cons (.tail (.tail .head)) (.cons (.tail (.tail .head)) (.cons (.tail (.tail .head)) (.cons (.tail (.tail .head)) (.cons (.tail (.tail .head)) (.cons (.tail (.tail .head)) (.cons (.tail (.tail .head)) (.nil)))))))))) ?_
                            refine wg_one (i := 4) (by kernel_rfl) ?_
                            refine go_r rfl rfl rfl rfl (or_call (fv := []) (vs := [.agg #[.int .i64 (N), .slice (some ⟨g_81, 0, none⟩) (es.length) (es.length)], .agg #[.int .i64 (s1), .int .i64 (s2), .int .i64 (s3), .int .i64 (s4)]]) (cs := []) en28 rfl rfl (call_x3 (fun w hw => SwitchEdgesI_c w N (some ⟨g_81, 0, none⟩) es.length es.length es s1 s2 s3 s4 ((holds_row (List.Mem.head _)) w hw) rfl (Nat.le_refl _) (by first | assumption | omega | (simp; omega)) (by first | assumption | omega | (simp; omega))))) (kt3p rfl (fun A2_84 k2_84 c2_84 h_84 => ?_))
                            refine gk (.cons (.tail (.tail (.tail .head))) (.cons (.tail (.tail (.tail .head))) (.cons (.tail (.tail (.tail .head))) (.cons (.tail (.tail (.tail .head))) (.cons (.tail (.tail (.tail .head))) (.cons (.tail (.tail (.tail .head))) (.cons (.tail (.tail (.tail .head))) (.cons (.tail (.tail (.tail .head))) (.cons (.tail (.tail (.tail .head))) (.nil)))))))))) ?_
                            refine wg_takep (i := 5) rfl (ov_move rfl) rfl rfl rfl (by kernel_rfl) (by kernel_rfl) (by kernel_rfl) rfl ?_
                            refine wg_takep (i := 6) rfl (ov_extract rfl rfl) rfl rfl rfl (by kernel_rfl) (by kernel_rfl) (by kernel_rfl) rfl ?_
                            refine wg_takep (i := 7) rfl (ov_extract rfl rfl) rfl rfl rfl (by kernel_rfl) (by kernel_rfl) (by kernel_rfl) rfl ?_
                            refine wg_one (i := 9) (by kernel_rfl) ?_
                            refine go_late0 rfl rfl rfl rfl (or_store_blk (vs := [.int .i64 ((swV N es s1 s2 s3 s4).1), .slice A2_84 ((swV N es s1 s2 s3 s4).2.1.length) (k2_84)]) (cs' := [.int .i64 ((swV N es s1 s2 s3 s4).1), .slice A2_84 ((swV N es s1 s2 s3 s4).2.1.length) (k2_84)]) (.tail (.tail .head)) tI25 rfl rfl rfl rfl (Nat.le_of_ble_eq_true rfl) rfl) (kn0 ?_)
                            refine wa_r (i := 10) (by kernel_rfl) rfl rfl rfl (OpV.opR (ov_assign rfl)) (kt0 rfl ?_)
                            refine wa_done (by kernel_rfl) ?_
                            exact fun ac_ w_ hs_ => hK25 g14 A2_84 k2_84 c2_84 h_84 ac_ w_ (hs_.weaken (.cons rfl (.cons rfl (.cons rfl (.cons rfl (.cons rfl (.cons rfl (.cons rfl (.cons rfl (.nil))))))))) (.cons (.tail (.tail (.tail .head))) (.cons (.tail (.tail (.tail .head))) (.cons (.tail (.tail (.tail .head))) (.cons (.tail (.tail (.tail .head))) (.cons (.tail (.tail (.tail .head))) (.cons (.tail (.tail (.tail .head))) (.cons (.tail (.tail (.tail .head))) (.cons (.tail (.tail (.tail .head))) (.cons (.tail (.tail (.tail .head))) (.cons (.head) (.cons (.head) (.nil)))))))))))))
                        ·
                          intro g14 A2_84 k2_84 c2_84 hz25
                          refine cw_seq ?_
                          refine cw_seq ?_
                          refine cw_region ?_
                          refine wl_v (ov_loadAgg (vs := [.int .i64 ((swV N es s1 s2 s3 s4).1), .slice A2_84 ((swV N es s1 s2 s3 s4).2.1.length) (k2_84)]) tI25 (holds_blk (List.Mem.tail _ (List.Mem.tail _ (List.Mem.tail _ (List.Mem.tail _ (List.Mem.tail _ (List.Mem.tail _ (List.Mem.tail _ (List.Mem.tail _ (List.Mem.tail _ (List.Mem.head _))))))))))) rfl some_lit rfl rfl) rfl rfl rfl ?_
                          refine wl_v (ov_loadAgg (vs := [.int .i64 ((swV N es s1 s2 s3 s4).1), .slice A2_26 ((swV N es s1 s2 s3 s4).2.1.length) (k2_26)]) tI25 (holds_blk (List.Mem.tail _ (List.Mem.tail _ (List.Mem.tail _ (List.Mem.tail _ (List.Mem.tail _ (List.Mem.tail _ (List.Mem.head _)))))))) rfl some_lit rfl rfl) rfl rfl rfl ?_
                          refine wl_r (or_call (fv := []) (vs := [.agg #[.int .i64 ((swV N es s1 s2 s3 s4).1), .slice A2_84 ((swV N es s1 s2 s3 s4).2.1.length) (k2_84)], .agg #[.int .i64 ((swV N es s1 s2 s3 s4).1), .slice A2_26 ((swV N es s1 s2 s3 s4).2.1.length) (k2_26)]]) (cs := []) en18 rfl rfl (call_v (fun w hw => eqGraph_c w ((swV N es s1 s2 s3 s4).1) A2_84 ((swV N es s1 s2 s3 s4).2.1.length) k2_84 ((swV N es s1 s2 s3 s4).2.1) ((swV N es s1 s2 s3 s4).1) A2_26 ((swV N es s1 s2 s3 s4).2.1.length) k2_26 ((swV N es s1 s2 s3 s4).2.1) ((holds_row (List.Mem.tail _ (List.Mem.tail _ (List.Mem.tail _ (List.Mem.tail _ (List.Mem.tail _ (List.Mem.tail _ (List.Mem.tail _ (List.Mem.tail _ (List.Mem.tail _ (List.Mem.tail _ (List.Mem.head _)))))))))))) w hw) rfl hz25 ((holds_row (List.Mem.tail _ (List.Mem.tail _ (List.Mem.tail _ (List.Mem.tail _ (List.Mem.tail _ (List.Mem.tail _ (List.Mem.tail _ (List.Mem.head _))))))))) w hw) rfl hz6 (by first | assumption | omega | (simp; omega))))) rfl rfl (kt_if rfl (fun c89 => ?_) (fun c89 => ?_))
                          ·
                            refine wl_v (ov_not rfl) rfl rfl rfl ?_
                            refine wl_v (ov_move rfl) rfl rfl rfl ?_
                            refine wl_go rfl rfl ?_
                            refine wl_v (ov_move rfl) rfl rfl rfl ?_
                            refine wl_go rfl rfl ?_
                            refine wl_v (ov_move rfl) rfl rfl rfl ?_
                            refine wl_go rfl rfl ?_
                            refine wl_if (OpV.dec (ov_neqb uI4 rfl rfl)) rfl rfl rfl (fun c94 => ?_) (fun c94 => ?_)
                            ·
                              first | (exfalso; omega) | exact absurd rfl c94 | exact absurd (by simp) c94 | (exfalso; simp at c94; omega) | exact absurd ⟨rfl, rfl⟩ c94 | (simp at c94)
                            ·
                              refine wl_v (ov_pick_f rfl rfl) rfl rfl rfl ?_
                              refine wl_nil ?_
                              refine ce_then ?_
                              refine cw_false rfl ?_
                              refine cw_skip ?_
                              refine ce_then ?_
                              refine cw_seq ?_
                              refine cw_region ?_
                              refine wl_v (ov_assign rfl) rfl rfl rfl ?_
                              refine wl_nil ?_
                              refine ce_then ?_
                              refine cw_seq ?_
                              refine cw_region ?_
                              refine wl_v (ov_loadAgg (vs := [.int .i64 ((swV N es s1 s2 s3 s4).1), .slice A2_35 ((swV N es s1 s2 s3 s4).2.1.length) (k2_35)]) tI25 (holds_blk (List.Mem.tail _ (List.Mem.tail _ (List.Mem.tail _ (List.Mem.tail _ (List.Mem.tail _ (List.Mem.tail _ (List.Mem.tail _ (List.Mem.tail _ (List.Mem.head _)))))))))) rfl some_lit rfl rfl) rfl rfl rfl ?_
                              refine wl_v (ov_move rfl) rfl rfl rfl ?_
                              refine wl_r (or_call (fv := []) (vs := [.agg #[.int .i64 ((swV N es s1 s2 s3 s4).1), .slice A2_35 ((swV N es s1 s2 s3 s4).2.1.length) (k2_35)], .int .i64 (1)]) (cs := []) en25 rfl rfl (call_v (fun w hw => heldGraph_c w ((swV N es s1 s2 s3 s4).1) A2_35 ((swV N es s1 s2 s3 s4).2.1.length) k2_35 (marksE 1 ((swV N es s1 s2 s3 s4).2.1.length)) 1 ((holds_row (List.Mem.head _)) w hw) (marksE_length _ _) hz8 (by first | omega | (rw [marksE_length]; omega)) (by first | assumption | omega | (simp; omega))))) rfl rfl (kt0 rfl ?_)
                              refine wl_v (ov_assign rfl) rfl rfl rfl ?_
                              refine wl_nil ?_
                              refine ce_then ?_
                              refine cw_seq ?_
                              refine cw_seq ?_
                              refine cw_region ?_
                              refine wl_v (ov_move rfl) rfl rfl rfl ?_
                              refine wl_if (ov_lss rfl rfl) rfl rfl rfl (fun c100 => ?_) (fun c100 => ?_)
                              ·
                                first | (exfalso; omega) | exact absurd rfl c100 | exact absurd (by simp) c100 | (exfalso; simp at c100; omega) | exact absurd ⟨rfl, rfl⟩ c100 | (simp at c100)
                              ·
                                refine wl_nil ?_
                                refine ce_then ?_
                                refine cw_false rfl ?_
                                refine cw_skip ?_
                                refine ce_then ?_
                                refine cw_seq ?_
                                refine cw_seq ?_
                                refine cw_region ?_
                                refine wl_v (ov_move rfl) rfl rfl rfl ?_
                                refine wl_v (ov_move rfl) rfl rfl rfl ?_
                                refine wl_if (ov_neq rfl rfl) rfl rfl rfl (fun c103 => ?_) (fun c103 => ?_)
                                ·
                                  first | (exfalso; omega) | exact absurd rfl c103 | exact absurd (by simp) c103 | (exfalso; simp at c103; omega) | exact absurd ⟨rfl, rfl⟩ c103 | (simp at c103)
                                ·
                                  refine wl_nil ?_
                                  refine ce_then ?_
                                  refine cw_false rfl ?_
                                  refine cw_skip ?_
                                  refine ce_then ?_
                                  refine cw_seq ?_
                                  refine cw_region ?_
                                  refine wl_v (ov_assign rfl) rfl rfl rfl ?_
                                  refine wl_nil ?_
                                  refine ce_then ?_
                                  refine cw_ret ?_
                                  refine ce_results (v := .bool true) (res1 rfl (rv_t rfl)) (fun w' hw => ?_)
                                  exact ⟨rfl, (Keep.nil.ss hw).to_new⟩
                          ·
                            first | (exfalso; omega) | exact absurd rfl c89 | exact absurd (by simp) c89 | (exfalso; simp at c89; omega) | exact absurd ⟨rfl, rfl⟩ c89 | (simp at c89)
                ·
                  first | (exfalso; omega) | exact absurd rfl c60 | exact absurd (by simp) c60 | (exfalso; simp at c60; omega) | exact absurd ⟨rfl, rfl⟩ c60 | (simp at c60)
            ·
              first | (exfalso; omega) | exact absurd rfl c50 | exact absurd (by simp) c50 | (exfalso; simp at c50; omega) | exact absurd ⟨rfl, rfl⟩ c50 | (simp at c50)
        ·
          first | (exfalso; omega) | exact absurd rfl c40 | exact absurd (by simp) c40 | (exfalso; simp at c40; omega) | exact absurd ⟨rfl, rfl⟩ c40 | (simp at c40)
end Go.Proofs.Ytkkllkkjdbpjpaa.LFnExactSwitchEdges
