/- Walks of functions of the given program: each returns what its Lean function says and leaves the memory that was there as it was. Conditions: those of each theorem. -/
import Derived.Test.YtlgkooeflgmcaaaSz
import Derived.Test.YtlgkooeflgmcaaaProg
import Derived.Test.YtlgkooeflgmcaaaPl
import Derived.Test.YtlgkooeflgmcaaaPo
import Derived.Test.YtlgkooeflgmcaaaPd
import Derived.Test.YtlgkooeflgmcaaaPe
import Derived.Test.YtlgkooeflgmcaaaPf
import Derived.Test.YtlgkooeflgmcaaaSo
import Derived.Test.YtlgkooeflgmcaaaSh
import Derived.Test.YtlgkooeflgmcaaaT
import Derived.Test.YtlgkooeflgmcaaaW2
import Derived.Test.YtlgkooeflgmcaaaW6
import Derived.Test.YtlgkooeflgmcaaaW7
import Derived.Test.YtlgkooeflgmcaaaW11
import Derived.Test.YtlgkooeflgmcaaaW12
import Derived.KernelRfl
namespace Go.Proofs.Ytlgkooeflgmcaaa.LFnDurfeeOf
open Go.Sx Go.RowKit Go.Proofs.Ytlgkooeflgmcaaa.T Go.Proofs.Ytlgkooeflgmcaaa.W2 Go.Proofs.Ytlgkooeflgmcaaa.W6 Go.Proofs.Ytlgkooeflgmcaaa.W7 Go.Proofs.Ytlgkooeflgmcaaa.W11 Go.Proofs.Ytlgkooeflgmcaaa.W12
open Go.Plain
set_option linter.unusedVariables false
set_option maxRecDepth 100000 in
theorem FnDurfeeOf_c (w : World) (Ar : Option Addr) (nr : Nat) (cr : Nat) (bs : List (Nat)) (hAr : At w Ar (cells fY bs)) (eAr : bs.length = nr) (lAr : nr ≤ cr) (hb : ∀ x ∈ bs, x < 256) : Calls Try.prog 4 #[.slice Ar (nr) (cr)] w (Ret fun rv w' => rv = .bool true ∧ New w w' []) := by
  have oAr := hAr.atB
  subst eAr
  refine fn_enter (args := [.slice Ar (bs.length) (cr)]) Try.func4 rfl Try.ntmps4 rfl (SS.start w) ?_
  refine cw_seq ?_
  refine cw_region ?_
  refine wl_v (ov_assign rfl) rfl rfl rfl ?_
  refine wl_nil ?_
  refine ce_then ?_
  refine cw_seq ?_
  refine cw_seq ?_
  refine cw_region ?_
  refine wl_v (ov_move rfl) rfl rfl rfl ?_
  refine wl_v (ov_len (sliceI_spec sI22) rfl) rfl rfl rfl ?_
  refine wl_if (ov_gtr rfl rfl) rfl rfl rfl (fun c9 => ?_) (fun c9 => ?_)
  ·
    refine wl_nil ?_
    refine ce_then ?_
    refine cw_true rfl ?_
    refine cw_seq ?_
    refine cw_region ?_
    refine wl_v (ov_assign rfl) rfl rfl rfl ?_
    refine wl_nil ?_
    refine ce_then ?_
    refine cw_ret ?_
    refine ce_then_ret ?_
    refine ce_results (v := .bool true) (res1 rfl (rv_t rfl)) (fun w' hw => ?_)
    exact ⟨rfl, (Keep.nil.ss hw).to_new⟩
  ·
    refine wl_nil ?_
    refine ce_then ?_
    refine cw_false rfl ?_
    refine cw_skip ?_
    refine ce_then ?_
    refine cw_seq ?_
    refine cw_region ?_
    refine wl_v (ov_move rfl) rfl rfl rfl ?_
    refine wl_r (or_call (fv := []) (vs := [.slice Ar (bs.length) (cr)]) (cs := []) en15 rfl rfl (call_x3 (fun w hw => DrawDurfeeOf_c w Ar bs.length cr bs ((holds_old oAr) w hw) rfl lAr (by first | assumption | omega | (simp; omega))))) rfl rfl (kt3p rfl (fun A2_11 c2_11 ys_11 h_11 => ?_))
    refine wl_v (ov_assign rfl) rfl rfl rfl ?_
    refine wl_nil ?_
    refine ce_then ?_
    refine cw_seq ?_
    refine cw_region ?_
    refine wl_v (ov_move rfl) rfl rfl rfl ?_
    refine wl_r (or_call (fv := []) (vs := [.slice A2_11 (ys_11.length) (c2_11)]) (cs := []) en16 rfl rfl (call_v (fun w hw => DurfeeOfI_c w A2_11 ys_11.length c2_11 ys_11 ((holds_row (List.Mem.head _)) w hw) rfl h_11.1 (by first | assumption | omega | (simp; omega))))) rfl rfl (kt0 rfl ?_)
    have hsp := durTo_spec (sortedL ys_11) (sortedL ys_11).length
    have hsl := sortedL_len ys_11
    have hll := slacksV_len ys_11
    obtain ⟨o, ho⟩ := Int.eq_ofNat_of_zero_le hsp.1
    refine ct_keep (L' := [(0, .slice Ar (bs.length) (cr)), (2, .bool false), (3, .slice A2_11 (ys_11.length) (c2_11)), (7, .slice Ar (bs.length) (cr)), (8, .int .i64 (((bs.length : Nat) : Int))), (9, .bool false), (10, .slice Ar (bs.length) (cr)), (11, .slice A2_11 (ys_11.length) (c2_11)), (12, .slice A2_11 (ys_11.length) (c2_11)), (13, .int .i64 (((o : Nat) : Int)))]) (.cons rfl (.cons rfl (.cons rfl (.cons rfl (.cons rfl (.cons rfl (.cons rfl (.cons rfl (.cons rfl (.cons (congrArg (fun z => some (Value.int .i64 z)) (show (durTo (sortedL ys_11) (sortedL ys_11).length) = ((o : Nat) : Int) from ho)) (.nil))))))))))) .refl ?_
    refine wl_v (ov_assign rfl) rfl rfl rfl ?_
    refine wl_nil ?_
    refine ce_then ?_
    refine cw_seq ?_
    refine cw_seq ?_
    refine cw_region ?_
    refine wl_v (ov_move rfl) rfl rfl rfl ?_
    refine wl_v (ov_move rfl) rfl rfl rfl ?_
    refine wl_r (or_call (fv := []) (vs := [.slice A2_11 (ys_11.length) (c2_11)]) (cs := []) en17 rfl rfl (call_v (fun w hw => DurfeeOfS_c w A2_11 ys_11.length c2_11 ys_11 ((holds_row (List.Mem.head _)) w hw) rfl h_11.1 (by first | assumption | omega | (simp; omega))))) rfl rfl (kt0 rfl ?_)
    refine wl_if (ov_neq rfl rfl) rfl rfl rfl (fun c17 => ?_) (fun c17 => ?_)
    ·
      exact absurd ho.symm c17
    ·
      refine wl_v (ov_move rfl) rfl rfl rfl ?_
      refine wl_go rfl rfl ?_
      refine wl_v (ov_move rfl) rfl rfl rfl ?_
      refine wl_go rfl rfl ?_
      refine wl_r (or_call (fv := []) (vs := [.slice A2_11 (ys_11.length) (c2_11)]) (cs := []) en12 rfl rfl (call_v (fun w hw => validI_c w A2_11 ys_11.length c2_11 ys_11 ((holds_row (List.Mem.head _)) w hw) rfl h_11.1 (by first | assumption | omega | (simp; omega))))) rfl rfl (kt_if rfl (fun c20 => ?_) (fun c20 => ?_))
      ·
        have hV := c20
        have hse : sortedL ys_11 = fall ys_11 := if_pos hV
        have hfl := fall_length ys_11
        have hsn : (sortedL ys_11).length = ys_11.length := by rw [hse, hfl]
        have hln : (slacksV ys_11).length = ys_11.length := by rw [slacksV_yes hV]; simp
        have hdn := durfee_none hV
        rw [← hse, show ys_11.length = (sortedL ys_11).length from by omega, ho, Int.toNat_natCast] at hdn
        have hdp : 0 < ys_11.length → 0 < durTo (sortedL ys_11) (sortedL ys_11).length := fun h => durTo_pos _ (by omega) ((sortedL_valid hV).2 _ (getD_mem 0 (by omega))).1
        refine wl_go rfl rfl ?_
        refine wl_v (ov_not rfl) rfl rfl rfl ?_
        refine wl_v (ov_pick_f rfl rfl) rfl rfl rfl ?_
        refine wl_nil ?_
        refine ce_then ?_
        refine cw_false rfl ?_
        refine cw_skip ?_
        refine ce_then ?_
        refine cw_seq ?_
        refine cw_region ?_
        refine wl_v (ov_move rfl) rfl rfl rfl ?_
        refine wl_r (or_call (fv := []) (vs := [.slice A2_11 (ys_11.length) (c2_11)]) (cs := []) en18 rfl rfl (call_x3 (fun w hw => SortDegreesI_c w A2_11 ys_11.length c2_11 ys_11 ((holds_row (List.Mem.head _)) w hw) rfl h_11.1 (by first | assumption | omega | (simp; omega))))) rfl rfl (kt3p rfl (fun A2_28 c2_28 c3_28 h_28 => ?_))
        refine wl_v (ov_assign rfl) rfl rfl rfl ?_
        refine wl_nil ?_
        refine ce_then ?_
        refine cw_seq ?_
        refine cw_region ?_
        refine wl_v (ov_move rfl) rfl rfl rfl ?_
        refine wl_r (or_call (fv := []) (vs := [.slice A2_11 (ys_11.length) (c2_11)]) (cs := []) en13 rfl rfl (call_x2 (fun w hw => SlacksOfI_c w A2_11 ys_11.length c2_11 ys_11 ((holds_row (List.Mem.tail _ (List.Mem.head _))) w hw) rfl h_11.1 (by first | assumption | omega | (simp; omega))))) rfl rfl (kt2p rfl (fun A2_30 c2_30 h_30 => ?_))
        refine wl_v (ov_assign rfl) rfl rfl rfl ?_
        refine wl_nil ?_
        refine ce_then ?_
        refine cw_seq ?_
        refine cw_draw mixO [] (.cons (.head) (.cons (.head) (.cons (.head) (.nil)))) rfl ?_
        refine wg_takep (i := 0) rfl (ov_move rfl) rfl rfl rfl (by kernel_rfl) (by kernel_rfl) (by kernel_rfl) rfl ?_
        refine wg_takep_if (i := 1) rfl (ov_eql rfl rfl) rfl rfl rfl (by kernel_rfl) (by kernel_rfl) (by kernel_rfl) rfl (fun c32 => ?_) (fun c32 => ?_)
        ·
          refine wg_takep (i := 2) rfl (ov_move rfl) rfl rfl rfl (by kernel_rfl) (by kernel_rfl) (by kernel_rfl) rfl ?_
          refine wg_take_not (i := 3) rfl rfl rfl rfl rfl (by kernel_rfl) (by kernel_rfl) (by kernel_rfl) (by kernel_rfl) ?_
          refine wg_take_not (i := 4) rfl rfl rfl rfl rfl (by kernel_rfl) (by kernel_rfl) (by kernel_rfl) (by kernel_rfl) ?_
          refine wg_take_not (i := 5) rfl rfl rfl rfl rfl (by kernel_rfl) (by kernel_rfl) (by kernel_rfl) (by kernel_rfl) ?_
          refine wg_take_not (i := 6) rfl rfl rfl rfl rfl (by kernel_rfl) (by kernel_rfl) (by kernel_rfl) (by kernel_rfl) ?_
          refine wg_take_not (i := 7) rfl rfl rfl rfl rfl (by kernel_rfl) (by kernel_rfl) (by kernel_rfl) (by kernel_rfl) ?_
          refine wg_take_not (i := 8) rfl rfl rfl rfl rfl (by kernel_rfl) (by kernel_rfl) (by kernel_rfl) (by kernel_rfl) ?_
          refine wg_take_not (i := 9) rfl rfl rfl rfl rfl (by kernel_rfl) (by kernel_rfl) (by kernel_rfl) (by kernel_rfl) ?_
          refine wg_take_not (i := 10) rfl rfl rfl rfl rfl (by kernel_rfl) (by kernel_rfl) (by kernel_rfl) (by kernel_rfl) ?_
          refine wg_takep (i := 11) rfl (ov_pick_t rfl rfl) rfl rfl rfl (by kernel_rfl) (by kernel_rfl) (by kernel_rfl) rfl ?_
          refine wg_takep (i := 12) rfl (ov_move rfl) rfl rfl rfl (by kernel_rfl) (by kernel_rfl) (by kernel_rfl) rfl ?_
          refine wg_take_go (i := 13) rfl rfl rfl (ov_move rfl) rfl (by kernel_rfl) (by kernel_rfl) (by kernel_rfl) (by kernel_rfl) ?_
          refine wg_take_go (i := 14) rfl rfl rfl (ov_move rfl) rfl (by kernel_rfl) (by kernel_rfl) (by kernel_rfl) (by kernel_rfl) ?_
          refine wg_take_go (i := 15) rfl rfl rfl (ov_len (sliceI_spec sI23) rfl) rfl (by kernel_rfl) (by kernel_rfl) (by kernel_rfl) (by kernel_rfl) ?_
          refine wg_take_go_if (i := 16) rfl rfl rfl (ov_eql rfl rfl) rfl (by kernel_rfl) (by kernel_rfl) (by kernel_rfl) (by kernel_rfl) (fun c47 => ?_) (fun c47 => ?_)
          ·
            refine wg_take_go (i := 17) rfl rfl rfl (ov_move rfl) rfl (by kernel_rfl) (by kernel_rfl) (by kernel_rfl) (by kernel_rfl) ?_
            refine wg_take_not (i := 18) rfl rfl rfl rfl rfl (by kernel_rfl) (by kernel_rfl) (by kernel_rfl) (by kernel_rfl) ?_
            refine wg_take_not (i := 19) rfl rfl rfl rfl rfl (by kernel_rfl) (by kernel_rfl) (by kernel_rfl) (by kernel_rfl) ?_
            refine wg_take_not (i := 20) rfl rfl rfl rfl rfl (by kernel_rfl) (by kernel_rfl) (by kernel_rfl) (by kernel_rfl) ?_
            refine wg_take_not (i := 21) rfl rfl rfl rfl rfl (by kernel_rfl) (by kernel_rfl) (by kernel_rfl) (by kernel_rfl) ?_
            refine wg_take_not (i := 22) rfl rfl rfl rfl rfl (by kernel_rfl) (by kernel_rfl) (by kernel_rfl) (by kernel_rfl) ?_
            refine wg_take_not (i := 23) rfl rfl rfl rfl rfl (by kernel_rfl) (by kernel_rfl) (by kernel_rfl) (by kernel_rfl) ?_
            refine wg_take_go (i := 24) rfl rfl rfl (ov_pick_t rfl rfl) rfl (by kernel_rfl) (by kernel_rfl) (by kernel_rfl) (by kernel_rfl) ?_
            refine wg_takep (i := 25) rfl (ov_pick_t rfl rfl) rfl rfl rfl (by kernel_rfl) (by kernel_rfl) (by kernel_rfl) rfl ?_
            refine wg_takep (i := 26) rfl (ov_move rfl) rfl rfl rfl (by kernel_rfl) (by kernel_rfl) (by kernel_rfl) rfl ?_
            refine wg_take_go (i := 27) rfl rfl rfl (ov_move rfl) rfl (by kernel_rfl) (by kernel_rfl) (by kernel_rfl) (by kernel_rfl) ?_
            refine wg_take_go (i := 28) rfl rfl rfl (ov_len (sliceI_spec sI23) rfl) rfl (by kernel_rfl) (by kernel_rfl) (by kernel_rfl) (by kernel_rfl) ?_
            refine wg_take_go_if (i := 29) rfl rfl rfl (ov_eql rfl rfl) rfl (by kernel_rfl) (by kernel_rfl) (by kernel_rfl) (by kernel_rfl) (fun c60 => ?_) (fun c60 => ?_)
            ·
              refine wg_take_go (i := 30) rfl rfl rfl (ov_move rfl) rfl (by kernel_rfl) (by kernel_rfl) (by kernel_rfl) (by kernel_rfl) ?_
              refine wg_take_go_if (i := 31) rfl rfl rfl (ov_eql rfl rfl) rfl (by kernel_rfl) (by kernel_rfl) (by kernel_rfl) (by kernel_rfl) (fun c62 => ?_) (fun c62 => ?_)
              ·
                refine wg_take_go (i := 32) rfl rfl rfl (ov_eqlb uI4 rfl rfl) rfl (by kernel_rfl) (by kernel_rfl) (by kernel_rfl) (by kernel_rfl) ?_
                refine wg_takep (i := 33) rfl (ov_pick_t rfl rfl) rfl rfl rfl (by kernel_rfl) (by kernel_rfl) (by kernel_rfl) rfl ?_
                refine wg_takep (i := 34) rfl (ov_move rfl) rfl rfl rfl (by kernel_rfl) (by kernel_rfl) (by kernel_rfl) rfl ?_
                refine wg_take_go (i := 35) rfl rfl rfl (ov_move rfl) rfl (by kernel_rfl) (by kernel_rfl) (by kernel_rfl) (by kernel_rfl) ?_
                refine wg_take_go (i := 37) rfl rfl rfl (ov_move rfl) rfl (by kernel_rfl) (by kernel_rfl) (by kernel_rfl) (by kernel_rfl) ?_
                refine wg_take_go (i := 38) rfl rfl rfl (ov_move rfl) rfl (by kernel_rfl) (by kernel_rfl) (by kernel_rfl) (by kernel_rfl) ?_
                refine wg_take_go (i := 39) rfl rfl rfl (ov_slice_h (h := o) sI23 tI3 rfl rfl (by omega)) rfl (by kernel_rfl) (by kernel_rfl) (by kernel_rfl) (by kernel_rfl) ?_
                refine wg_one (i := 36) (by kernel_rfl) ?_
                refine go_rg rfl rfl rfl rfl (or_call (fv := []) (vs := [.slice A2_30 ((slacksV ys_11).length) (c2_30)]) (cs := []) en14 rfl rfl (call_v (fun w hw => none_c w A2_30 ((slacksV ys_11).length) c2_30 (slacksV ys_11) ((holds_row (List.Mem.head _)) w hw) rfl h_30 (by omega)))) (kt_if rfl (fun c67 => ?_) (fun c67 => ?_))
                ·
                  refine gk (.cons (.head) (.cons (.head) (.cons (.head) (.nil)))) ?_
                  refine wg_one (i := 40) (by kernel_rfl) ?_
                  refine go_rg rfl rfl rfl rfl (or_call (fv := []) (vs := [.slice A2_30 (o) (c2_30)]) (cs := []) en14 rfl rfl (call_v (fun w hw => none_c w A2_30 o c2_30 ((slacksV ys_11).take o) ((holds_takeC (k := o) fI_len (holds_row (List.Mem.head _))) w hw) (by rw [List.length_take]; omega) (by omega) (by rw [List.length_take]; omega)))) (kt_if rfl (fun c71 => ?_) (fun c71 => ?_))
                  ·
                    refine gk (.cons (.head) (.cons (.head) (.cons (.head) (.nil)))) ?_
                    refine wg_take_go (i := 41) rfl rfl rfl (ov_eqlb uI4 rfl rfl) rfl (by kernel_rfl) (by kernel_rfl) (by kernel_rfl) (by kernel_rfl) ?_
                    refine wg_takep (i := 42) rfl (ov_pick_t rfl rfl) rfl rfl rfl (by kernel_rfl) (by kernel_rfl) (by kernel_rfl) rfl ?_
                    refine wg_takep (i := 43) rfl (ov_assign rfl) rfl rfl rfl (by kernel_rfl) (by kernel_rfl) (by kernel_rfl) rfl ?_
                    refine wg_done (by kernel_rfl) ?_
                    refine ce_then ?_
                    refine cw_ret ?_
                    refine ce_results (v := .bool true) (res1 rfl (rv_t rfl)) (fun w' hw => ?_)
                    exact ⟨rfl, (Keep.nil.ss hw).to_new⟩
                  ·
                    refine gk (.cons (.head) (.cons (.head) (.cons (.head) (.nil)))) ?_
                    refine wg_take_go (i := 41) rfl rfl rfl (ov_eqlb uI4 rfl rfl) rfl (by kernel_rfl) (by kernel_rfl) (by kernel_rfl) (by kernel_rfl) ?_
                    refine wg_takep (i := 42) rfl (ov_pick_t rfl rfl) rfl rfl rfl (by kernel_rfl) (by kernel_rfl) (by kernel_rfl) rfl ?_
                    refine wg_takep (i := 43) rfl (ov_assign rfl) rfl rfl rfl (by kernel_rfl) (by kernel_rfl) (by kernel_rfl) rfl ?_
                    refine wg_done (by kernel_rfl) ?_
                    refine ce_then ?_
                    refine cw_ret ?_
                    refine ce_results (v := .bool false) (res1 rfl (rv_t rfl)) (fun w' hw => ?_)
                    exfalso
                    exact c71 (hdn.1 c67)
                ·
                  refine gk (.cons (.head) (.cons (.head) (.cons (.head) (.nil)))) ?_
                  refine wg_one (i := 40) (by kernel_rfl) ?_
                  refine go_rg rfl rfl rfl rfl (or_call (fv := []) (vs := [.slice A2_30 (o) (c2_30)]) (cs := []) en14 rfl rfl (call_v (fun w hw => none_c w A2_30 o c2_30 ((slacksV ys_11).take o) ((holds_takeC (k := o) fI_len (holds_row (List.Mem.head _))) w hw) (by rw [List.length_take]; omega) (by omega) (by rw [List.length_take]; omega)))) (kt_if rfl (fun c71 => ?_) (fun c71 => ?_))
                  ·
                    refine gk (.cons (.head) (.cons (.head) (.cons (.head) (.nil)))) ?_
                    refine wg_take_go (i := 41) rfl rfl rfl (ov_eqlb uI4 rfl rfl) rfl (by kernel_rfl) (by kernel_rfl) (by kernel_rfl) (by kernel_rfl) ?_
                    refine wg_takep (i := 42) rfl (ov_pick_t rfl rfl) rfl rfl rfl (by kernel_rfl) (by kernel_rfl) (by kernel_rfl) rfl ?_
                    refine wg_takep (i := 43) rfl (ov_assign rfl) rfl rfl rfl (by kernel_rfl) (by kernel_rfl) (by kernel_rfl) rfl ?_
                    refine wg_done (by kernel_rfl) ?_
                    refine ce_then ?_
                    refine cw_ret ?_
                    refine ce_results (v := .bool false) (res1 rfl (rv_t rfl)) (fun w' hw => ?_)
                    exfalso
                    exact c67 (hdn.2 c71)
                  ·
                    refine gk (.cons (.head) (.cons (.head) (.cons (.head) (.nil)))) ?_
                    refine wg_take_go (i := 41) rfl rfl rfl (ov_eqlb uI4 rfl rfl) rfl (by kernel_rfl) (by kernel_rfl) (by kernel_rfl) (by kernel_rfl) ?_
                    refine wg_takep (i := 42) rfl (ov_pick_t rfl rfl) rfl rfl rfl (by kernel_rfl) (by kernel_rfl) (by kernel_rfl) rfl ?_
                    refine wg_takep (i := 43) rfl (ov_assign rfl) rfl rfl rfl (by kernel_rfl) (by kernel_rfl) (by kernel_rfl) rfl ?_
                    refine wg_done (by kernel_rfl) ?_
                    refine ce_then ?_
                    refine cw_ret ?_
                    refine ce_results (v := .bool true) (res1 rfl (rv_t rfl)) (fun w' hw => ?_)
                    exact ⟨rfl, (Keep.nil.ss hw).to_new⟩
              ·
                refine wg_take_go (i := 32) rfl rfl rfl (ov_eqlb uI4 rfl rfl) rfl (by kernel_rfl) (by kernel_rfl) (by kernel_rfl) (by kernel_rfl) ?_
                refine wg_takep (i := 33) rfl (ov_pick_t rfl rfl) rfl rfl rfl (by kernel_rfl) (by kernel_rfl) (by kernel_rfl) rfl ?_
                refine wg_takep (i := 34) rfl (ov_move rfl) rfl rfl rfl (by kernel_rfl) (by kernel_rfl) (by kernel_rfl) rfl ?_
                refine wg_take_not (i := 35) rfl rfl rfl rfl rfl (by kernel_rfl) (by kernel_rfl) (by kernel_rfl) (by kernel_rfl) ?_
                refine wg_take_not (i := 36) rfl rfl rfl rfl rfl (by kernel_rfl) (by kernel_rfl) (by kernel_rfl) (by kernel_rfl) ?_
                refine wg_take_not (i := 37) rfl rfl rfl rfl rfl (by kernel_rfl) (by kernel_rfl) (by kernel_rfl) (by kernel_rfl) ?_
                refine wg_take_not (i := 38) rfl rfl rfl rfl rfl (by kernel_rfl) (by kernel_rfl) (by kernel_rfl) (by kernel_rfl) ?_
                refine wg_take_not (i := 39) rfl rfl rfl rfl rfl (by kernel_rfl) (by kernel_rfl) (by kernel_rfl) (by kernel_rfl) ?_
                refine wg_take_not (i := 40) rfl rfl rfl rfl rfl (by kernel_rfl) (by kernel_rfl) (by kernel_rfl) (by kernel_rfl) ?_
                refine wg_take_not (i := 41) rfl rfl rfl rfl rfl (by kernel_rfl) (by kernel_rfl) (by kernel_rfl) (by kernel_rfl) ?_
                refine wg_takep (i := 42) rfl (ov_pick_f rfl rfl) rfl rfl rfl (by kernel_rfl) (by kernel_rfl) (by kernel_rfl) rfl ?_
                refine wg_takep (i := 43) rfl (ov_assign rfl) rfl rfl rfl (by kernel_rfl) (by kernel_rfl) (by kernel_rfl) rfl ?_
                refine wg_done (by kernel_rfl) ?_
                refine ce_then ?_
                refine cw_ret ?_
                refine ce_results (v := .bool false) (res1 rfl (rv_t rfl)) (fun w' hw => ?_)
                exfalso
                omega
            ·
              refine wg_take_go (i := 30) rfl rfl rfl (ov_move rfl) rfl (by kernel_rfl) (by kernel_rfl) (by kernel_rfl) (by kernel_rfl) ?_
              refine wg_take_go_if (i := 31) rfl rfl rfl (ov_eql rfl rfl) rfl (by kernel_rfl) (by kernel_rfl) (by kernel_rfl) (by kernel_rfl) (fun c62 => ?_) (fun c62 => ?_)
              ·
                refine wg_take_go (i := 32) rfl rfl rfl (ov_eqlb uI4 rfl rfl) rfl (by kernel_rfl) (by kernel_rfl) (by kernel_rfl) (by kernel_rfl) ?_
                refine wg_takep (i := 33) rfl (ov_pick_t rfl rfl) rfl rfl rfl (by kernel_rfl) (by kernel_rfl) (by kernel_rfl) rfl ?_
                refine wg_takep (i := 34) rfl (ov_move rfl) rfl rfl rfl (by kernel_rfl) (by kernel_rfl) (by kernel_rfl) rfl ?_
                refine wg_take_not (i := 35) rfl rfl rfl rfl rfl (by kernel_rfl) (by kernel_rfl) (by kernel_rfl) (by kernel_rfl) ?_
                refine wg_take_not (i := 36) rfl rfl rfl rfl rfl (by kernel_rfl) (by kernel_rfl) (by kernel_rfl) (by kernel_rfl) ?_
                refine wg_take_not (i := 37) rfl rfl rfl rfl rfl (by kernel_rfl) (by kernel_rfl) (by kernel_rfl) (by kernel_rfl) ?_
                refine wg_take_not (i := 38) rfl rfl rfl rfl rfl (by kernel_rfl) (by kernel_rfl) (by kernel_rfl) (by kernel_rfl) ?_
                refine wg_take_not (i := 39) rfl rfl rfl rfl rfl (by kernel_rfl) (by kernel_rfl) (by kernel_rfl) (by kernel_rfl) ?_
                refine wg_take_not (i := 40) rfl rfl rfl rfl rfl (by kernel_rfl) (by kernel_rfl) (by kernel_rfl) (by kernel_rfl) ?_
                refine wg_take_not (i := 41) rfl rfl rfl rfl rfl (by kernel_rfl) (by kernel_rfl) (by kernel_rfl) (by kernel_rfl) ?_
                refine wg_takep (i := 42) rfl (ov_pick_f rfl rfl) rfl rfl rfl (by kernel_rfl) (by kernel_rfl) (by kernel_rfl) rfl ?_
                refine wg_takep (i := 43) rfl (ov_assign rfl) rfl rfl rfl (by kernel_rfl) (by kernel_rfl) (by kernel_rfl) rfl ?_
                refine wg_done (by kernel_rfl) ?_
                refine ce_then ?_
                refine cw_ret ?_
                refine ce_results (v := .bool false) (res1 rfl (rv_t rfl)) (fun w' hw => ?_)
                exfalso
                have := hdp (by omega)
                omega
              ·
                refine wg_take_go (i := 32) rfl rfl rfl (ov_eqlb uI4 rfl rfl) rfl (by kernel_rfl) (by kernel_rfl) (by kernel_rfl) (by kernel_rfl) ?_
                refine wg_takep (i := 33) rfl (ov_pick_t rfl rfl) rfl rfl rfl (by kernel_rfl) (by kernel_rfl) (by kernel_rfl) rfl ?_
                refine wg_takep (i := 34) rfl (ov_move rfl) rfl rfl rfl (by kernel_rfl) (by kernel_rfl) (by kernel_rfl) rfl ?_
                refine wg_take_go (i := 35) rfl rfl rfl (ov_move rfl) rfl (by kernel_rfl) (by kernel_rfl) (by kernel_rfl) (by kernel_rfl) ?_
                refine wg_take_go (i := 37) rfl rfl rfl (ov_move rfl) rfl (by kernel_rfl) (by kernel_rfl) (by kernel_rfl) (by kernel_rfl) ?_
                refine wg_take_go (i := 38) rfl rfl rfl (ov_move rfl) rfl (by kernel_rfl) (by kernel_rfl) (by kernel_rfl) (by kernel_rfl) ?_
                refine wg_take_go (i := 39) rfl rfl rfl (ov_slice_h (h := o) sI23 tI3 rfl rfl (by omega)) rfl (by kernel_rfl) (by kernel_rfl) (by kernel_rfl) (by kernel_rfl) ?_
                refine wg_one (i := 36) (by kernel_rfl) ?_
                refine go_rg rfl rfl rfl rfl (or_call (fv := []) (vs := [.slice A2_30 ((slacksV ys_11).length) (c2_30)]) (cs := []) en14 rfl rfl (call_v (fun w hw => none_c w A2_30 ((slacksV ys_11).length) c2_30 (slacksV ys_11) ((holds_row (List.Mem.head _)) w hw) rfl h_30 (by omega)))) (kt_if rfl (fun c67 => ?_) (fun c67 => ?_))
                ·
                  refine gk (.cons (.head) (.cons (.head) (.cons (.head) (.nil)))) ?_
                  refine wg_one (i := 40) (by kernel_rfl) ?_
                  refine go_rg rfl rfl rfl rfl (or_call (fv := []) (vs := [.slice A2_30 (o) (c2_30)]) (cs := []) en14 rfl rfl (call_v (fun w hw => none_c w A2_30 o c2_30 ((slacksV ys_11).take o) ((holds_takeC (k := o) fI_len (holds_row (List.Mem.head _))) w hw) (by rw [List.length_take]; omega) (by omega) (by rw [List.length_take]; omega)))) (kt_if rfl (fun c71 => ?_) (fun c71 => ?_))
                  ·
                    refine gk (.cons (.head) (.cons (.head) (.cons (.head) (.nil)))) ?_
                    refine wg_take_go (i := 41) rfl rfl rfl (ov_eqlb uI4 rfl rfl) rfl (by kernel_rfl) (by kernel_rfl) (by kernel_rfl) (by kernel_rfl) ?_
                    refine wg_takep (i := 42) rfl (ov_pick_t rfl rfl) rfl rfl rfl (by kernel_rfl) (by kernel_rfl) (by kernel_rfl) rfl ?_
                    refine wg_takep (i := 43) rfl (ov_assign rfl) rfl rfl rfl (by kernel_rfl) (by kernel_rfl) (by kernel_rfl) rfl ?_
                    refine wg_done (by kernel_rfl) ?_
                    refine ce_then ?_
                    refine cw_ret ?_
                    refine ce_results (v := .bool true) (res1 rfl (rv_t rfl)) (fun w' hw => ?_)
                    exact ⟨rfl, (Keep.nil.ss hw).to_new⟩
                  ·
                    refine gk (.cons (.head) (.cons (.head) (.cons (.head) (.nil)))) ?_
                    refine wg_take_go (i := 41) rfl rfl rfl (ov_eqlb uI4 rfl rfl) rfl (by kernel_rfl) (by kernel_rfl) (by kernel_rfl) (by kernel_rfl) ?_
                    refine wg_takep (i := 42) rfl (ov_pick_t rfl rfl) rfl rfl rfl (by kernel_rfl) (by kernel_rfl) (by kernel_rfl) rfl ?_
                    refine wg_takep (i := 43) rfl (ov_assign rfl) rfl rfl rfl (by kernel_rfl) (by kernel_rfl) (by kernel_rfl) rfl ?_
                    refine wg_done (by kernel_rfl) ?_
                    refine ce_then ?_
                    refine cw_ret ?_
                    refine ce_results (v := .bool false) (res1 rfl (rv_t rfl)) (fun w' hw => ?_)
                    exfalso
                    exact c71 (hdn.1 c67)
                ·
                  refine gk (.cons (.head) (.cons (.head) (.cons (.head) (.nil)))) ?_
                  refine wg_one (i := 40) (by kernel_rfl) ?_
                  refine go_rg rfl rfl rfl rfl (or_call (fv := []) (vs := [.slice A2_30 (o) (c2_30)]) (cs := []) en14 rfl rfl (call_v (fun w hw => none_c w A2_30 o c2_30 ((slacksV ys_11).take o) ((holds_takeC (k := o) fI_len (holds_row (List.Mem.head _))) w hw) (by rw [List.length_take]; omega) (by omega) (by rw [List.length_take]; omega)))) (kt_if rfl (fun c71 => ?_) (fun c71 => ?_))
                  ·
                    refine gk (.cons (.head) (.cons (.head) (.cons (.head) (.nil)))) ?_
                    refine wg_take_go (i := 41) rfl rfl rfl (ov_eqlb uI4 rfl rfl) rfl (by kernel_rfl) (by kernel_rfl) (by kernel_rfl) (by kernel_rfl) ?_
                    refine wg_takep (i := 42) rfl (ov_pick_t rfl rfl) rfl rfl rfl (by kernel_rfl) (by kernel_rfl) (by kernel_rfl) rfl ?_
                    refine wg_takep (i := 43) rfl (ov_assign rfl) rfl rfl rfl (by kernel_rfl) (by kernel_rfl) (by kernel_rfl) rfl ?_
                    refine wg_done (by kernel_rfl) ?_
                    refine ce_then ?_
                    refine cw_ret ?_
                    refine ce_results (v := .bool false) (res1 rfl (rv_t rfl)) (fun w' hw => ?_)
                    exfalso
                    exact c67 (hdn.2 c71)
                  ·
                    refine gk (.cons (.head) (.cons (.head) (.cons (.head) (.nil)))) ?_
                    refine wg_take_go (i := 41) rfl rfl rfl (ov_eqlb uI4 rfl rfl) rfl (by kernel_rfl) (by kernel_rfl) (by kernel_rfl) (by kernel_rfl) ?_
                    refine wg_takep (i := 42) rfl (ov_pick_t rfl rfl) rfl rfl rfl (by kernel_rfl) (by kernel_rfl) (by kernel_rfl) rfl ?_
                    refine wg_takep (i := 43) rfl (ov_assign rfl) rfl rfl rfl (by kernel_rfl) (by kernel_rfl) (by kernel_rfl) rfl ?_
                    refine wg_done (by kernel_rfl) ?_
                    refine ce_then ?_
                    refine cw_ret ?_
                    refine ce_results (v := .bool true) (res1 rfl (rv_t rfl)) (fun w' hw => ?_)
                    exact ⟨rfl, (Keep.nil.ss hw).to_new⟩
          ·
            refine wg_take_go (i := 17) rfl rfl rfl (ov_move rfl) rfl (by kernel_rfl) (by kernel_rfl) (by kernel_rfl) (by kernel_rfl) ?_
            refine wg_take_go (i := 18) rfl rfl rfl (ov_move rfl) rfl (by kernel_rfl) (by kernel_rfl) (by kernel_rfl) (by kernel_rfl) ?_
            refine wg_take_go (i := 19) rfl rfl rfl (ov_move rfl) rfl (by kernel_rfl) (by kernel_rfl) (by kernel_rfl) (by kernel_rfl) ?_
            refine wg_take_go (i := 20) rfl rfl rfl (ov_index (k := o) (c := c2_28) sI23 tI3 rfl rfl (some_holds (q := o * 1) (holds_row (List.Mem.tail _ (List.Mem.head _))) (by rw [cells_length fI_len]; have hlt : o < (sortedL ys_11).length := (by omega); omega)) (show o < (sortedL ys_11).length from (by omega))) rfl (by kernel_rfl) (by kernel_rfl) (by kernel_rfl) (by kernel_rfl) ?_
            refine wg_take_go (i := 21) rfl rfl rfl (ov_load tI3 (holds_row (List.Mem.tail _ (List.Mem.head _))) rfl (get_fI (show o < (sortedL ys_11).length from (by omega)))) rfl (by kernel_rfl) (by kernel_rfl) (by kernel_rfl) (by kernel_rfl) ?_
            refine wg_take_go (i := 22) rfl rfl rfl (ov_move rfl) rfl (by kernel_rfl) (by kernel_rfl) (by kernel_rfl) (by kernel_rfl) ?_
            refine wg_take_go_if (i := 23) rfl rfl rfl (ov_lss rfl rfl) rfl (by kernel_rfl) (by kernel_rfl) (by kernel_rfl) (by kernel_rfl) (fun c54 => ?_) (fun c54 => ?_)
            ·
              refine wg_take_go (i := 24) rfl rfl rfl (ov_pick_f rfl rfl) rfl (by kernel_rfl) (by kernel_rfl) (by kernel_rfl) (by kernel_rfl) ?_
              refine wg_takep (i := 25) rfl (ov_pick_t rfl rfl) rfl rfl rfl (by kernel_rfl) (by kernel_rfl) (by kernel_rfl) rfl ?_
              refine wg_takep (i := 26) rfl (ov_move rfl) rfl rfl rfl (by kernel_rfl) (by kernel_rfl) (by kernel_rfl) rfl ?_
              refine wg_take_go (i := 27) rfl rfl rfl (ov_move rfl) rfl (by kernel_rfl) (by kernel_rfl) (by kernel_rfl) (by kernel_rfl) ?_
              refine wg_take_go (i := 28) rfl rfl rfl (ov_len (sliceI_spec sI23) rfl) rfl (by kernel_rfl) (by kernel_rfl) (by kernel_rfl) (by kernel_rfl) ?_
              refine wg_take_go_if (i := 29) rfl rfl rfl (ov_eql rfl rfl) rfl (by kernel_rfl) (by kernel_rfl) (by kernel_rfl) (by kernel_rfl) (fun c60 => ?_) (fun c60 => ?_)
              ·
                refine wg_take_go (i := 30) rfl rfl rfl (ov_move rfl) rfl (by kernel_rfl) (by kernel_rfl) (by kernel_rfl) (by kernel_rfl) ?_
                refine wg_take_go_if (i := 31) rfl rfl rfl (ov_eql rfl rfl) rfl (by kernel_rfl) (by kernel_rfl) (by kernel_rfl) (by kernel_rfl) (fun c62 => ?_) (fun c62 => ?_)
                ·
                  refine wg_take_go (i := 32) rfl rfl rfl (ov_eqlb uI4 rfl rfl) rfl (by kernel_rfl) (by kernel_rfl) (by kernel_rfl) (by kernel_rfl) ?_
                  refine wg_takep (i := 33) rfl (ov_pick_t rfl rfl) rfl rfl rfl (by kernel_rfl) (by kernel_rfl) (by kernel_rfl) rfl ?_
                  refine wg_takep (i := 34) rfl (ov_move rfl) rfl rfl rfl (by kernel_rfl) (by kernel_rfl) (by kernel_rfl) rfl ?_
                  refine wg_take_go (i := 35) rfl rfl rfl (ov_move rfl) rfl (by kernel_rfl) (by kernel_rfl) (by kernel_rfl) (by kernel_rfl) ?_
                  refine wg_take_go (i := 37) rfl rfl rfl (ov_move rfl) rfl (by kernel_rfl) (by kernel_rfl) (by kernel_rfl) (by kernel_rfl) ?_
                  refine wg_take_go (i := 38) rfl rfl rfl (ov_move rfl) rfl (by kernel_rfl) (by kernel_rfl) (by kernel_rfl) (by kernel_rfl) ?_
                  refine wg_take_go (i := 39) rfl rfl rfl (ov_slice_h (h := o) sI23 tI3 rfl rfl (by omega)) rfl (by kernel_rfl) (by kernel_rfl) (by kernel_rfl) (by kernel_rfl) ?_
                  refine wg_one (i := 36) (by kernel_rfl) ?_
                  refine go_rg rfl rfl rfl rfl (or_call (fv := []) (vs := [.slice A2_30 ((slacksV ys_11).length) (c2_30)]) (cs := []) en14 rfl rfl (call_v (fun w hw => none_c w A2_30 ((slacksV ys_11).length) c2_30 (slacksV ys_11) ((holds_row (List.Mem.head _)) w hw) rfl h_30 (by omega)))) (kt_if rfl (fun c67 => ?_) (fun c67 => ?_))
                  ·
                    refine gk (.cons (.head) (.cons (.head) (.cons (.head) (.nil)))) ?_
                    refine wg_one (i := 40) (by kernel_rfl) ?_
                    refine go_rg rfl rfl rfl rfl (or_call (fv := []) (vs := [.slice A2_30 (o) (c2_30)]) (cs := []) en14 rfl rfl (call_v (fun w hw => none_c w A2_30 o c2_30 ((slacksV ys_11).take o) ((holds_takeC (k := o) fI_len (holds_row (List.Mem.head _))) w hw) (by rw [List.length_take]; omega) (by omega) (by rw [List.length_take]; omega)))) (kt_if rfl (fun c71 => ?_) (fun c71 => ?_))
                    ·
                      refine gk (.cons (.head) (.cons (.head) (.cons (.head) (.nil)))) ?_
                      refine wg_take_go (i := 41) rfl rfl rfl (ov_eqlb uI4 rfl rfl) rfl (by kernel_rfl) (by kernel_rfl) (by kernel_rfl) (by kernel_rfl) ?_
                      refine wg_takep (i := 42) rfl (ov_pick_t rfl rfl) rfl rfl rfl (by kernel_rfl) (by kernel_rfl) (by kernel_rfl) rfl ?_
                      refine wg_takep (i := 43) rfl (ov_assign rfl) rfl rfl rfl (by kernel_rfl) (by kernel_rfl) (by kernel_rfl) rfl ?_
                      refine wg_done (by kernel_rfl) ?_
                      refine ce_then ?_
                      refine cw_ret ?_
                      refine ce_results (v := .bool true) (res1 rfl (rv_t rfl)) (fun w' hw => ?_)
                      exact ⟨rfl, (Keep.nil.ss hw).to_new⟩
                    ·
                      refine gk (.cons (.head) (.cons (.head) (.cons (.head) (.nil)))) ?_
                      refine wg_take_go (i := 41) rfl rfl rfl (ov_eqlb uI4 rfl rfl) rfl (by kernel_rfl) (by kernel_rfl) (by kernel_rfl) (by kernel_rfl) ?_
                      refine wg_takep (i := 42) rfl (ov_pick_t rfl rfl) rfl rfl rfl (by kernel_rfl) (by kernel_rfl) (by kernel_rfl) rfl ?_
                      refine wg_takep (i := 43) rfl (ov_assign rfl) rfl rfl rfl (by kernel_rfl) (by kernel_rfl) (by kernel_rfl) rfl ?_
                      refine wg_done (by kernel_rfl) ?_
                      refine ce_then ?_
                      refine cw_ret ?_
                      refine ce_results (v := .bool false) (res1 rfl (rv_t rfl)) (fun w' hw => ?_)
                      exfalso
                      exact c71 (hdn.1 c67)
                  ·
                    refine gk (.cons (.head) (.cons (.head) (.cons (.head) (.nil)))) ?_
                    refine wg_one (i := 40) (by kernel_rfl) ?_
                    refine go_rg rfl rfl rfl rfl (or_call (fv := []) (vs := [.slice A2_30 (o) (c2_30)]) (cs := []) en14 rfl rfl (call_v (fun w hw => none_c w A2_30 o c2_30 ((slacksV ys_11).take o) ((holds_takeC (k := o) fI_len (holds_row (List.Mem.head _))) w hw) (by rw [List.length_take]; omega) (by omega) (by rw [List.length_take]; omega)))) (kt_if rfl (fun c71 => ?_) (fun c71 => ?_))
                    ·
                      refine gk (.cons (.head) (.cons (.head) (.cons (.head) (.nil)))) ?_
                      refine wg_take_go (i := 41) rfl rfl rfl (ov_eqlb uI4 rfl rfl) rfl (by kernel_rfl) (by kernel_rfl) (by kernel_rfl) (by kernel_rfl) ?_
                      refine wg_takep (i := 42) rfl (ov_pick_t rfl rfl) rfl rfl rfl (by kernel_rfl) (by kernel_rfl) (by kernel_rfl) rfl ?_
                      refine wg_takep (i := 43) rfl (ov_assign rfl) rfl rfl rfl (by kernel_rfl) (by kernel_rfl) (by kernel_rfl) rfl ?_
                      refine wg_done (by kernel_rfl) ?_
                      refine ce_then ?_
                      refine cw_ret ?_
                      refine ce_results (v := .bool false) (res1 rfl (rv_t rfl)) (fun w' hw => ?_)
                      exfalso
                      exact c67 (hdn.2 c71)
                    ·
                      refine gk (.cons (.head) (.cons (.head) (.cons (.head) (.nil)))) ?_
                      refine wg_take_go (i := 41) rfl rfl rfl (ov_eqlb uI4 rfl rfl) rfl (by kernel_rfl) (by kernel_rfl) (by kernel_rfl) (by kernel_rfl) ?_
                      refine wg_takep (i := 42) rfl (ov_pick_t rfl rfl) rfl rfl rfl (by kernel_rfl) (by kernel_rfl) (by kernel_rfl) rfl ?_
                      refine wg_takep (i := 43) rfl (ov_assign rfl) rfl rfl rfl (by kernel_rfl) (by kernel_rfl) (by kernel_rfl) rfl ?_
                      refine wg_done (by kernel_rfl) ?_
                      refine ce_then ?_
                      refine cw_ret ?_
                      refine ce_results (v := .bool true) (res1 rfl (rv_t rfl)) (fun w' hw => ?_)
                      exact ⟨rfl, (Keep.nil.ss hw).to_new⟩
                ·
                  refine wg_take_go (i := 32) rfl rfl rfl (ov_eqlb uI4 rfl rfl) rfl (by kernel_rfl) (by kernel_rfl) (by kernel_rfl) (by kernel_rfl) ?_
                  refine wg_takep (i := 33) rfl (ov_pick_t rfl rfl) rfl rfl rfl (by kernel_rfl) (by kernel_rfl) (by kernel_rfl) rfl ?_
                  refine wg_takep (i := 34) rfl (ov_move rfl) rfl rfl rfl (by kernel_rfl) (by kernel_rfl) (by kernel_rfl) rfl ?_
                  refine wg_take_not (i := 35) rfl rfl rfl rfl rfl (by kernel_rfl) (by kernel_rfl) (by kernel_rfl) (by kernel_rfl) ?_
                  refine wg_take_not (i := 36) rfl rfl rfl rfl rfl (by kernel_rfl) (by kernel_rfl) (by kernel_rfl) (by kernel_rfl) ?_
                  refine wg_take_not (i := 37) rfl rfl rfl rfl rfl (by kernel_rfl) (by kernel_rfl) (by kernel_rfl) (by kernel_rfl) ?_
                  refine wg_take_not (i := 38) rfl rfl rfl rfl rfl (by kernel_rfl) (by kernel_rfl) (by kernel_rfl) (by kernel_rfl) ?_
                  refine wg_take_not (i := 39) rfl rfl rfl rfl rfl (by kernel_rfl) (by kernel_rfl) (by kernel_rfl) (by kernel_rfl) ?_
                  refine wg_take_not (i := 40) rfl rfl rfl rfl rfl (by kernel_rfl) (by kernel_rfl) (by kernel_rfl) (by kernel_rfl) ?_
                  refine wg_take_not (i := 41) rfl rfl rfl rfl rfl (by kernel_rfl) (by kernel_rfl) (by kernel_rfl) (by kernel_rfl) ?_
                  refine wg_takep (i := 42) rfl (ov_pick_f rfl rfl) rfl rfl rfl (by kernel_rfl) (by kernel_rfl) (by kernel_rfl) rfl ?_
                  refine wg_takep (i := 43) rfl (ov_assign rfl) rfl rfl rfl (by kernel_rfl) (by kernel_rfl) (by kernel_rfl) rfl ?_
                  refine wg_done (by kernel_rfl) ?_
                  refine ce_then ?_
                  refine cw_ret ?_
                  refine ce_results (v := .bool false) (res1 rfl (rv_t rfl)) (fun w' hw => ?_)
                  exfalso
                  omega
              ·
                refine wg_take_go (i := 30) rfl rfl rfl (ov_move rfl) rfl (by kernel_rfl) (by kernel_rfl) (by kernel_rfl) (by kernel_rfl) ?_
                refine wg_take_go_if (i := 31) rfl rfl rfl (ov_eql rfl rfl) rfl (by kernel_rfl) (by kernel_rfl) (by kernel_rfl) (by kernel_rfl) (fun c62 => ?_) (fun c62 => ?_)
                ·
                  refine wg_take_go (i := 32) rfl rfl rfl (ov_eqlb uI4 rfl rfl) rfl (by kernel_rfl) (by kernel_rfl) (by kernel_rfl) (by kernel_rfl) ?_
                  refine wg_takep (i := 33) rfl (ov_pick_t rfl rfl) rfl rfl rfl (by kernel_rfl) (by kernel_rfl) (by kernel_rfl) rfl ?_
                  refine wg_takep (i := 34) rfl (ov_move rfl) rfl rfl rfl (by kernel_rfl) (by kernel_rfl) (by kernel_rfl) rfl ?_
                  refine wg_take_not (i := 35) rfl rfl rfl rfl rfl (by kernel_rfl) (by kernel_rfl) (by kernel_rfl) (by kernel_rfl) ?_
                  refine wg_take_not (i := 36) rfl rfl rfl rfl rfl (by kernel_rfl) (by kernel_rfl) (by kernel_rfl) (by kernel_rfl) ?_
                  refine wg_take_not (i := 37) rfl rfl rfl rfl rfl (by kernel_rfl) (by kernel_rfl) (by kernel_rfl) (by kernel_rfl) ?_
                  refine wg_take_not (i := 38) rfl rfl rfl rfl rfl (by kernel_rfl) (by kernel_rfl) (by kernel_rfl) (by kernel_rfl) ?_
                  refine wg_take_not (i := 39) rfl rfl rfl rfl rfl (by kernel_rfl) (by kernel_rfl) (by kernel_rfl) (by kernel_rfl) ?_
                  refine wg_take_not (i := 40) rfl rfl rfl rfl rfl (by kernel_rfl) (by kernel_rfl) (by kernel_rfl) (by kernel_rfl) ?_
                  refine wg_take_not (i := 41) rfl rfl rfl rfl rfl (by kernel_rfl) (by kernel_rfl) (by kernel_rfl) (by kernel_rfl) ?_
                  refine wg_takep (i := 42) rfl (ov_pick_f rfl rfl) rfl rfl rfl (by kernel_rfl) (by kernel_rfl) (by kernel_rfl) rfl ?_
                  refine wg_takep (i := 43) rfl (ov_assign rfl) rfl rfl rfl (by kernel_rfl) (by kernel_rfl) (by kernel_rfl) rfl ?_
                  refine wg_done (by kernel_rfl) ?_
                  refine ce_then ?_
                  refine cw_ret ?_
                  refine ce_results (v := .bool false) (res1 rfl (rv_t rfl)) (fun w' hw => ?_)
                  exfalso
                  have := hdp (by omega)
                  omega
                ·
                  refine wg_take_go (i := 32) rfl rfl rfl (ov_eqlb uI4 rfl rfl) rfl (by kernel_rfl) (by kernel_rfl) (by kernel_rfl) (by kernel_rfl) ?_
                  refine wg_takep (i := 33) rfl (ov_pick_t rfl rfl) rfl rfl rfl (by kernel_rfl) (by kernel_rfl) (by kernel_rfl) rfl ?_
                  refine wg_takep (i := 34) rfl (ov_move rfl) rfl rfl rfl (by kernel_rfl) (by kernel_rfl) (by kernel_rfl) rfl ?_
                  refine wg_take_go (i := 35) rfl rfl rfl (ov_move rfl) rfl (by kernel_rfl) (by kernel_rfl) (by kernel_rfl) (by kernel_rfl) ?_
                  refine wg_take_go (i := 37) rfl rfl rfl (ov_move rfl) rfl (by kernel_rfl) (by kernel_rfl) (by kernel_rfl) (by kernel_rfl) ?_
                  refine wg_take_go (i := 38) rfl rfl rfl (ov_move rfl) rfl (by kernel_rfl) (by kernel_rfl) (by kernel_rfl) (by kernel_rfl) ?_
                  refine wg_take_go (i := 39) rfl rfl rfl (ov_slice_h (h := o) sI23 tI3 rfl rfl (by omega)) rfl (by kernel_rfl) (by kernel_rfl) (by kernel_rfl) (by kernel_rfl) ?_
                  refine wg_one (i := 36) (by kernel_rfl) ?_
                  refine go_rg rfl rfl rfl rfl (or_call (fv := []) (vs := [.slice A2_30 ((slacksV ys_11).length) (c2_30)]) (cs := []) en14 rfl rfl (call_v (fun w hw => none_c w A2_30 ((slacksV ys_11).length) c2_30 (slacksV ys_11) ((holds_row (List.Mem.head _)) w hw) rfl h_30 (by omega)))) (kt_if rfl (fun c67 => ?_) (fun c67 => ?_))
                  ·
                    refine gk (.cons (.head) (.cons (.head) (.cons (.head) (.nil)))) ?_
                    refine wg_one (i := 40) (by kernel_rfl) ?_
                    refine go_rg rfl rfl rfl rfl (or_call (fv := []) (vs := [.slice A2_30 (o) (c2_30)]) (cs := []) en14 rfl rfl (call_v (fun w hw => none_c w A2_30 o c2_30 ((slacksV ys_11).take o) ((holds_takeC (k := o) fI_len (holds_row (List.Mem.head _))) w hw) (by rw [List.length_take]; omega) (by omega) (by rw [List.length_take]; omega)))) (kt_if rfl (fun c71 => ?_) (fun c71 => ?_))
                    ·
                      refine gk (.cons (.head) (.cons (.head) (.cons (.head) (.nil)))) ?_
                      refine wg_take_go (i := 41) rfl rfl rfl (ov_eqlb uI4 rfl rfl) rfl (by kernel_rfl) (by kernel_rfl) (by kernel_rfl) (by kernel_rfl) ?_
                      refine wg_takep (i := 42) rfl (ov_pick_t rfl rfl) rfl rfl rfl (by kernel_rfl) (by kernel_rfl) (by kernel_rfl) rfl ?_
                      refine wg_takep (i := 43) rfl (ov_assign rfl) rfl rfl rfl (by kernel_rfl) (by kernel_rfl) (by kernel_rfl) rfl ?_
                      refine wg_done (by kernel_rfl) ?_
                      refine ce_then ?_
                      refine cw_ret ?_
                      refine ce_results (v := .bool true) (res1 rfl (rv_t rfl)) (fun w' hw => ?_)
                      exact ⟨rfl, (Keep.nil.ss hw).to_new⟩
                    ·
                      refine gk (.cons (.head) (.cons (.head) (.cons (.head) (.nil)))) ?_
                      refine wg_take_go (i := 41) rfl rfl rfl (ov_eqlb uI4 rfl rfl) rfl (by kernel_rfl) (by kernel_rfl) (by kernel_rfl) (by kernel_rfl) ?_
                      refine wg_takep (i := 42) rfl (ov_pick_t rfl rfl) rfl rfl rfl (by kernel_rfl) (by kernel_rfl) (by kernel_rfl) rfl ?_
                      refine wg_takep (i := 43) rfl (ov_assign rfl) rfl rfl rfl (by kernel_rfl) (by kernel_rfl) (by kernel_rfl) rfl ?_
                      refine wg_done (by kernel_rfl) ?_
                      refine ce_then ?_
                      refine cw_ret ?_
                      refine ce_results (v := .bool false) (res1 rfl (rv_t rfl)) (fun w' hw => ?_)
                      exfalso
                      exact c71 (hdn.1 c67)
                  ·
                    refine gk (.cons (.head) (.cons (.head) (.cons (.head) (.nil)))) ?_
                    refine wg_one (i := 40) (by kernel_rfl) ?_
                    refine go_rg rfl rfl rfl rfl (or_call (fv := []) (vs := [.slice A2_30 (o) (c2_30)]) (cs := []) en14 rfl rfl (call_v (fun w hw => none_c w A2_30 o c2_30 ((slacksV ys_11).take o) ((holds_takeC (k := o) fI_len (holds_row (List.Mem.head _))) w hw) (by rw [List.length_take]; omega) (by omega) (by rw [List.length_take]; omega)))) (kt_if rfl (fun c71 => ?_) (fun c71 => ?_))
                    ·
                      refine gk (.cons (.head) (.cons (.head) (.cons (.head) (.nil)))) ?_
                      refine wg_take_go (i := 41) rfl rfl rfl (ov_eqlb uI4 rfl rfl) rfl (by kernel_rfl) (by kernel_rfl) (by kernel_rfl) (by kernel_rfl) ?_
                      refine wg_takep (i := 42) rfl (ov_pick_t rfl rfl) rfl rfl rfl (by kernel_rfl) (by kernel_rfl) (by kernel_rfl) rfl ?_
                      refine wg_takep (i := 43) rfl (ov_assign rfl) rfl rfl rfl (by kernel_rfl) (by kernel_rfl) (by kernel_rfl) rfl ?_
                      refine wg_done (by kernel_rfl) ?_
                      refine ce_then ?_
                      refine cw_ret ?_
                      refine ce_results (v := .bool false) (res1 rfl (rv_t rfl)) (fun w' hw => ?_)
                      exfalso
                      exact c67 (hdn.2 c71)
                    ·
                      refine gk (.cons (.head) (.cons (.head) (.cons (.head) (.nil)))) ?_
                      refine wg_take_go (i := 41) rfl rfl rfl (ov_eqlb uI4 rfl rfl) rfl (by kernel_rfl) (by kernel_rfl) (by kernel_rfl) (by kernel_rfl) ?_
                      refine wg_takep (i := 42) rfl (ov_pick_t rfl rfl) rfl rfl rfl (by kernel_rfl) (by kernel_rfl) (by kernel_rfl) rfl ?_
                      refine wg_takep (i := 43) rfl (ov_assign rfl) rfl rfl rfl (by kernel_rfl) (by kernel_rfl) (by kernel_rfl) rfl ?_
                      refine wg_done (by kernel_rfl) ?_
                      refine ce_then ?_
                      refine cw_ret ?_
                      refine ce_results (v := .bool true) (res1 rfl (rv_t rfl)) (fun w' hw => ?_)
                      exact ⟨rfl, (Keep.nil.ss hw).to_new⟩
            ·
              exact absurd (hsp.2.2 o (by omega) (by omega)) c54
        ·
          refine wg_takep (i := 2) rfl (ov_move rfl) rfl rfl rfl (by kernel_rfl) (by kernel_rfl) (by kernel_rfl) rfl ?_
          refine wg_take_go (i := 3) rfl rfl rfl (ov_move rfl) rfl (by kernel_rfl) (by kernel_rfl) (by kernel_rfl) (by kernel_rfl) ?_
          refine wg_take_go (i := 4) rfl rfl rfl (ov_move rfl) rfl (by kernel_rfl) (by kernel_rfl) (by kernel_rfl) (by kernel_rfl) ?_
          refine wg_take_go (i := 5) rfl rfl rfl (ov_sub (r := ((o - 1 : Nat) : Int)) rfl rfl (by omega) (by omega)) rfl (by kernel_rfl) (by kernel_rfl) (by kernel_rfl) (by kernel_rfl) ?_
          refine wg_take_go (i := 6) rfl rfl rfl (ov_index (k := o - 1) (c := c2_28) sI23 tI3 rfl rfl (some_holds (q := (o - 1) * 1) (holds_row (List.Mem.tail _ (List.Mem.head _))) (by rw [cells_length fI_len]; have hlt : o - 1 < (sortedL ys_11).length := (by omega); omega)) (show o - 1 < (sortedL ys_11).length from (by omega))) rfl (by kernel_rfl) (by kernel_rfl) (by kernel_rfl) (by kernel_rfl) ?_
          refine wg_take_go (i := 7) rfl rfl rfl (ov_load tI3 (holds_row (List.Mem.tail _ (List.Mem.head _))) rfl (get_fI (show o - 1 < (sortedL ys_11).length from (by omega)))) rfl (by kernel_rfl) (by kernel_rfl) (by kernel_rfl) (by kernel_rfl) ?_
          refine wg_take_go (i := 8) rfl rfl rfl (ov_move rfl) rfl (by kernel_rfl) (by kernel_rfl) (by kernel_rfl) (by kernel_rfl) ?_
          refine wg_take_go (i := 9) rfl rfl rfl (ov_sub (r := ((o - 1 : Nat) : Int)) rfl rfl (by omega) (by omega)) rfl (by kernel_rfl) (by kernel_rfl) (by kernel_rfl) (by kernel_rfl) ?_
          refine wg_take_go_if (i := 10) rfl rfl rfl (ov_geq rfl rfl) rfl (by kernel_rfl) (by kernel_rfl) (by kernel_rfl) (by kernel_rfl) (fun c41 => ?_) (fun c41 => ?_)
          ·
            refine wg_takep (i := 11) rfl (ov_pick_f rfl rfl) rfl rfl rfl (by kernel_rfl) (by kernel_rfl) (by kernel_rfl) rfl ?_
            refine wg_takep (i := 12) rfl (ov_move rfl) rfl rfl rfl (by kernel_rfl) (by kernel_rfl) (by kernel_rfl) rfl ?_
            refine wg_take_go (i := 13) rfl rfl rfl (ov_move rfl) rfl (by kernel_rfl) (by kernel_rfl) (by kernel_rfl) (by kernel_rfl) ?_
            refine wg_take_go (i := 14) rfl rfl rfl (ov_move rfl) rfl (by kernel_rfl) (by kernel_rfl) (by kernel_rfl) (by kernel_rfl) ?_
            refine wg_take_go (i := 15) rfl rfl rfl (ov_len (sliceI_spec sI23) rfl) rfl (by kernel_rfl) (by kernel_rfl) (by kernel_rfl) (by kernel_rfl) ?_
            refine wg_take_go_if (i := 16) rfl rfl rfl (ov_eql rfl rfl) rfl (by kernel_rfl) (by kernel_rfl) (by kernel_rfl) (by kernel_rfl) (fun c47 => ?_) (fun c47 => ?_)
            ·
              refine wg_take_go (i := 17) rfl rfl rfl (ov_move rfl) rfl (by kernel_rfl) (by kernel_rfl) (by kernel_rfl) (by kernel_rfl) ?_
              refine wg_take_not (i := 18) rfl rfl rfl rfl rfl (by kernel_rfl) (by kernel_rfl) (by kernel_rfl) (by kernel_rfl) ?_
              refine wg_take_not (i := 19) rfl rfl rfl rfl rfl (by kernel_rfl) (by kernel_rfl) (by kernel_rfl) (by kernel_rfl) ?_
              refine wg_take_not (i := 20) rfl rfl rfl rfl rfl (by kernel_rfl) (by kernel_rfl) (by kernel_rfl) (by kernel_rfl) ?_
              refine wg_take_not (i := 21) rfl rfl rfl rfl rfl (by kernel_rfl) (by kernel_rfl) (by kernel_rfl) (by kernel_rfl) ?_
              refine wg_take_not (i := 22) rfl rfl rfl rfl rfl (by kernel_rfl) (by kernel_rfl) (by kernel_rfl) (by kernel_rfl) ?_
              refine wg_take_not (i := 23) rfl rfl rfl rfl rfl (by kernel_rfl) (by kernel_rfl) (by kernel_rfl) (by kernel_rfl) ?_
              refine wg_take_go (i := 24) rfl rfl rfl (ov_pick_t rfl rfl) rfl (by kernel_rfl) (by kernel_rfl) (by kernel_rfl) (by kernel_rfl) ?_
              refine wg_takep (i := 25) rfl (ov_pick_t rfl rfl) rfl rfl rfl (by kernel_rfl) (by kernel_rfl) (by kernel_rfl) rfl ?_
              refine wg_takep (i := 26) rfl (ov_move rfl) rfl rfl rfl (by kernel_rfl) (by kernel_rfl) (by kernel_rfl) rfl ?_
              refine wg_take_go (i := 27) rfl rfl rfl (ov_move rfl) rfl (by kernel_rfl) (by kernel_rfl) (by kernel_rfl) (by kernel_rfl) ?_
              refine wg_take_go (i := 28) rfl rfl rfl (ov_len (sliceI_spec sI23) rfl) rfl (by kernel_rfl) (by kernel_rfl) (by kernel_rfl) (by kernel_rfl) ?_
              refine wg_take_go_if (i := 29) rfl rfl rfl (ov_eql rfl rfl) rfl (by kernel_rfl) (by kernel_rfl) (by kernel_rfl) (by kernel_rfl) (fun c60 => ?_) (fun c60 => ?_)
              ·
                refine wg_take_go (i := 30) rfl rfl rfl (ov_move rfl) rfl (by kernel_rfl) (by kernel_rfl) (by kernel_rfl) (by kernel_rfl) ?_
                refine wg_take_go_if (i := 31) rfl rfl rfl (ov_eql rfl rfl) rfl (by kernel_rfl) (by kernel_rfl) (by kernel_rfl) (by kernel_rfl) (fun c62 => ?_) (fun c62 => ?_)
                ·
                  refine wg_take_go (i := 32) rfl rfl rfl (ov_eqlb uI4 rfl rfl) rfl (by kernel_rfl) (by kernel_rfl) (by kernel_rfl) (by kernel_rfl) ?_
                  refine wg_takep (i := 33) rfl (ov_pick_t rfl rfl) rfl rfl rfl (by kernel_rfl) (by kernel_rfl) (by kernel_rfl) rfl ?_
                  refine wg_takep (i := 34) rfl (ov_move rfl) rfl rfl rfl (by kernel_rfl) (by kernel_rfl) (by kernel_rfl) rfl ?_
                  refine wg_take_go (i := 35) rfl rfl rfl (ov_move rfl) rfl (by kernel_rfl) (by kernel_rfl) (by kernel_rfl) (by kernel_rfl) ?_
                  refine wg_take_go (i := 37) rfl rfl rfl (ov_move rfl) rfl (by kernel_rfl) (by kernel_rfl) (by kernel_rfl) (by kernel_rfl) ?_
                  refine wg_take_go (i := 38) rfl rfl rfl (ov_move rfl) rfl (by kernel_rfl) (by kernel_rfl) (by kernel_rfl) (by kernel_rfl) ?_
                  refine wg_take_go (i := 39) rfl rfl rfl (ov_slice_h (h := o) sI23 tI3 rfl rfl (by omega)) rfl (by kernel_rfl) (by kernel_rfl) (by kernel_rfl) (by kernel_rfl) ?_
                  refine wg_one (i := 36) (by kernel_rfl) ?_
                  refine go_rg rfl rfl rfl rfl (or_call (fv := []) (vs := [.slice A2_30 ((slacksV ys_11).length) (c2_30)]) (cs := []) en14 rfl rfl (call_v (fun w hw => none_c w A2_30 ((slacksV ys_11).length) c2_30 (slacksV ys_11) ((holds_row (List.Mem.head _)) w hw) rfl h_30 (by omega)))) (kt_if rfl (fun c67 => ?_) (fun c67 => ?_))
                  ·
                    refine gk (.cons (.head) (.cons (.head) (.cons (.head) (.nil)))) ?_
                    refine wg_one (i := 40) (by kernel_rfl) ?_
                    refine go_rg rfl rfl rfl rfl (or_call (fv := []) (vs := [.slice A2_30 (o) (c2_30)]) (cs := []) en14 rfl rfl (call_v (fun w hw => none_c w A2_30 o c2_30 ((slacksV ys_11).take o) ((holds_takeC (k := o) fI_len (holds_row (List.Mem.head _))) w hw) (by rw [List.length_take]; omega) (by omega) (by rw [List.length_take]; omega)))) (kt_if rfl (fun c71 => ?_) (fun c71 => ?_))
                    ·
                      refine gk (.cons (.head) (.cons (.head) (.cons (.head) (.nil)))) ?_
                      refine wg_take_go (i := 41) rfl rfl rfl (ov_eqlb uI4 rfl rfl) rfl (by kernel_rfl) (by kernel_rfl) (by kernel_rfl) (by kernel_rfl) ?_
                      refine wg_takep (i := 42) rfl (ov_pick_t rfl rfl) rfl rfl rfl (by kernel_rfl) (by kernel_rfl) (by kernel_rfl) rfl ?_
                      refine wg_takep (i := 43) rfl (ov_assign rfl) rfl rfl rfl (by kernel_rfl) (by kernel_rfl) (by kernel_rfl) rfl ?_
                      refine wg_done (by kernel_rfl) ?_
                      refine ce_then ?_
                      refine cw_ret ?_
                      refine ce_results (v := .bool true) (res1 rfl (rv_t rfl)) (fun w' hw => ?_)
                      exact ⟨rfl, (Keep.nil.ss hw).to_new⟩
                    ·
                      refine gk (.cons (.head) (.cons (.head) (.cons (.head) (.nil)))) ?_
                      refine wg_take_go (i := 41) rfl rfl rfl (ov_eqlb uI4 rfl rfl) rfl (by kernel_rfl) (by kernel_rfl) (by kernel_rfl) (by kernel_rfl) ?_
                      refine wg_takep (i := 42) rfl (ov_pick_t rfl rfl) rfl rfl rfl (by kernel_rfl) (by kernel_rfl) (by kernel_rfl) rfl ?_
                      refine wg_takep (i := 43) rfl (ov_assign rfl) rfl rfl rfl (by kernel_rfl) (by kernel_rfl) (by kernel_rfl) rfl ?_
                      refine wg_done (by kernel_rfl) ?_
                      refine ce_then ?_
                      refine cw_ret ?_
                      refine ce_results (v := .bool false) (res1 rfl (rv_t rfl)) (fun w' hw => ?_)
                      exfalso
                      exact c71 (hdn.1 c67)
                  ·
                    refine gk (.cons (.head) (.cons (.head) (.cons (.head) (.nil)))) ?_
                    refine wg_one (i := 40) (by kernel_rfl) ?_
                    refine go_rg rfl rfl rfl rfl (or_call (fv := []) (vs := [.slice A2_30 (o) (c2_30)]) (cs := []) en14 rfl rfl (call_v (fun w hw => none_c w A2_30 o c2_30 ((slacksV ys_11).take o) ((holds_takeC (k := o) fI_len (holds_row (List.Mem.head _))) w hw) (by rw [List.length_take]; omega) (by omega) (by rw [List.length_take]; omega)))) (kt_if rfl (fun c71 => ?_) (fun c71 => ?_))
                    ·
                      refine gk (.cons (.head) (.cons (.head) (.cons (.head) (.nil)))) ?_
                      refine wg_take_go (i := 41) rfl rfl rfl (ov_eqlb uI4 rfl rfl) rfl (by kernel_rfl) (by kernel_rfl) (by kernel_rfl) (by kernel_rfl) ?_
                      refine wg_takep (i := 42) rfl (ov_pick_t rfl rfl) rfl rfl rfl (by kernel_rfl) (by kernel_rfl) (by kernel_rfl) rfl ?_
                      refine wg_takep (i := 43) rfl (ov_assign rfl) rfl rfl rfl (by kernel_rfl) (by kernel_rfl) (by kernel_rfl) rfl ?_
                      refine wg_done (by kernel_rfl) ?_
                      refine ce_then ?_
                      refine cw_ret ?_
                      refine ce_results (v := .bool false) (res1 rfl (rv_t rfl)) (fun w' hw => ?_)
                      exfalso
                      exact c67 (hdn.2 c71)
                    ·
                      refine gk (.cons (.head) (.cons (.head) (.cons (.head) (.nil)))) ?_
                      refine wg_take_go (i := 41) rfl rfl rfl (ov_eqlb uI4 rfl rfl) rfl (by kernel_rfl) (by kernel_rfl) (by kernel_rfl) (by kernel_rfl) ?_
                      refine wg_takep (i := 42) rfl (ov_pick_t rfl rfl) rfl rfl rfl (by kernel_rfl) (by kernel_rfl) (by kernel_rfl) rfl ?_
                      refine wg_takep (i := 43) rfl (ov_assign rfl) rfl rfl rfl (by kernel_rfl) (by kernel_rfl) (by kernel_rfl) rfl ?_
                      refine wg_done (by kernel_rfl) ?_
                      refine ce_then ?_
                      refine cw_ret ?_
                      refine ce_results (v := .bool true) (res1 rfl (rv_t rfl)) (fun w' hw => ?_)
                      exact ⟨rfl, (Keep.nil.ss hw).to_new⟩
                ·
                  refine wg_take_go (i := 32) rfl rfl rfl (ov_eqlb uI4 rfl rfl) rfl (by kernel_rfl) (by kernel_rfl) (by kernel_rfl) (by kernel_rfl) ?_
                  refine wg_takep (i := 33) rfl (ov_pick_t rfl rfl) rfl rfl rfl (by kernel_rfl) (by kernel_rfl) (by kernel_rfl) rfl ?_
                  refine wg_takep (i := 34) rfl (ov_move rfl) rfl rfl rfl (by kernel_rfl) (by kernel_rfl) (by kernel_rfl) rfl ?_
                  refine wg_take_not (i := 35) rfl rfl rfl rfl rfl (by kernel_rfl) (by kernel_rfl) (by kernel_rfl) (by kernel_rfl) ?_
                  refine wg_take_not (i := 36) rfl rfl rfl rfl rfl (by kernel_rfl) (by kernel_rfl) (by kernel_rfl) (by kernel_rfl) ?_
                  refine wg_take_not (i := 37) rfl rfl rfl rfl rfl (by kernel_rfl) (by kernel_rfl) (by kernel_rfl) (by kernel_rfl) ?_
                  refine wg_take_not (i := 38) rfl rfl rfl rfl rfl (by kernel_rfl) (by kernel_rfl) (by kernel_rfl) (by kernel_rfl) ?_
                  refine wg_take_not (i := 39) rfl rfl rfl rfl rfl (by kernel_rfl) (by kernel_rfl) (by kernel_rfl) (by kernel_rfl) ?_
                  refine wg_take_not (i := 40) rfl rfl rfl rfl rfl (by kernel_rfl) (by kernel_rfl) (by kernel_rfl) (by kernel_rfl) ?_
                  refine wg_take_not (i := 41) rfl rfl rfl rfl rfl (by kernel_rfl) (by kernel_rfl) (by kernel_rfl) (by kernel_rfl) ?_
                  refine wg_takep (i := 42) rfl (ov_pick_f rfl rfl) rfl rfl rfl (by kernel_rfl) (by kernel_rfl) (by kernel_rfl) rfl ?_
                  refine wg_takep (i := 43) rfl (ov_assign rfl) rfl rfl rfl (by kernel_rfl) (by kernel_rfl) (by kernel_rfl) rfl ?_
                  refine wg_done (by kernel_rfl) ?_
                  refine ce_then ?_
                  refine cw_ret ?_
                  refine ce_results (v := .bool false) (res1 rfl (rv_t rfl)) (fun w' hw => ?_)
                  exfalso
                  omega
              ·
                refine wg_take_go (i := 30) rfl rfl rfl (ov_move rfl) rfl (by kernel_rfl) (by kernel_rfl) (by kernel_rfl) (by kernel_rfl) ?_
                refine wg_take_go_if (i := 31) rfl rfl rfl (ov_eql rfl rfl) rfl (by kernel_rfl) (by kernel_rfl) (by kernel_rfl) (by kernel_rfl) (fun c62 => ?_) (fun c62 => ?_)
                ·
                  refine wg_take_go (i := 32) rfl rfl rfl (ov_eqlb uI4 rfl rfl) rfl (by kernel_rfl) (by kernel_rfl) (by kernel_rfl) (by kernel_rfl) ?_
                  refine wg_takep (i := 33) rfl (ov_pick_t rfl rfl) rfl rfl rfl (by kernel_rfl) (by kernel_rfl) (by kernel_rfl) rfl ?_
                  refine wg_takep (i := 34) rfl (ov_move rfl) rfl rfl rfl (by kernel_rfl) (by kernel_rfl) (by kernel_rfl) rfl ?_
                  refine wg_take_not (i := 35) rfl rfl rfl rfl rfl (by kernel_rfl) (by kernel_rfl) (by kernel_rfl) (by kernel_rfl) ?_
                  refine wg_take_not (i := 36) rfl rfl rfl rfl rfl (by kernel_rfl) (by kernel_rfl) (by kernel_rfl) (by kernel_rfl) ?_
                  refine wg_take_not (i := 37) rfl rfl rfl rfl rfl (by kernel_rfl) (by kernel_rfl) (by kernel_rfl) (by kernel_rfl) ?_
                  refine wg_take_not (i := 38) rfl rfl rfl rfl rfl (by kernel_rfl) (by kernel_rfl) (by kernel_rfl) (by kernel_rfl) ?_
                  refine wg_take_not (i := 39) rfl rfl rfl rfl rfl (by kernel_rfl) (by kernel_rfl) (by kernel_rfl) (by kernel_rfl) ?_
                  refine wg_take_not (i := 40) rfl rfl rfl rfl rfl (by kernel_rfl) (by kernel_rfl) (by kernel_rfl) (by kernel_rfl) ?_
                  refine wg_take_not (i := 41) rfl rfl rfl rfl rfl (by kernel_rfl) (by kernel_rfl) (by kernel_rfl) (by kernel_rfl) ?_
                  refine wg_takep (i := 42) rfl (ov_pick_f rfl rfl) rfl rfl rfl (by kernel_rfl) (by kernel_rfl) (by kernel_rfl) rfl ?_
                  refine wg_takep (i := 43) rfl (ov_assign rfl) rfl rfl rfl (by kernel_rfl) (by kernel_rfl) (by kernel_rfl) rfl ?_
                  refine wg_done (by kernel_rfl) ?_
                  refine ce_then ?_
                  refine cw_ret ?_
                  refine ce_results (v := .bool false) (res1 rfl (rv_t rfl)) (fun w' hw => ?_)
                  exfalso
                  have := hdp (by omega)
                  omega
                ·
                  refine wg_take_go (i := 32) rfl rfl rfl (ov_eqlb uI4 rfl rfl) rfl (by kernel_rfl) (by kernel_rfl) (by kernel_rfl) (by kernel_rfl) ?_
                  refine wg_takep (i := 33) rfl (ov_pick_t rfl rfl) rfl rfl rfl (by kernel_rfl) (by kernel_rfl) (by kernel_rfl) rfl ?_
                  refine wg_takep (i := 34) rfl (ov_move rfl) rfl rfl rfl (by kernel_rfl) (by kernel_rfl) (by kernel_rfl) rfl ?_
                  refine wg_take_go (i := 35) rfl rfl rfl (ov_move rfl) rfl (by kernel_rfl) (by kernel_rfl) (by kernel_rfl) (by kernel_rfl) ?_
                  refine wg_take_go (i := 37) rfl rfl rfl (ov_move rfl) rfl (by kernel_rfl) (by kernel_rfl) (by kernel_rfl) (by kernel_rfl) ?_
                  refine wg_take_go (i := 38) rfl rfl rfl (ov_move rfl) rfl (by kernel_rfl) (by kernel_rfl) (by kernel_rfl) (by kernel_rfl) ?_
                  refine wg_take_go (i := 39) rfl rfl rfl (ov_slice_h (h := o) sI23 tI3 rfl rfl (by omega)) rfl (by kernel_rfl) (by kernel_rfl) (by kernel_rfl) (by kernel_rfl) ?_
                  refine wg_one (i := 36) (by kernel_rfl) ?_
                  refine go_rg rfl rfl rfl rfl (or_call (fv := []) (vs := [.slice A2_30 ((slacksV ys_11).length) (c2_30)]) (cs := []) en14 rfl rfl (call_v (fun w hw => none_c w A2_30 ((slacksV ys_11).length) c2_30 (slacksV ys_11) ((holds_row (List.Mem.head _)) w hw) rfl h_30 (by omega)))) (kt_if rfl (fun c67 => ?_) (fun c67 => ?_))
                  ·
                    refine gk (.cons (.head) (.cons (.head) (.cons (.head) (.nil)))) ?_
                    refine wg_one (i := 40) (by kernel_rfl) ?_
                    refine go_rg rfl rfl rfl rfl (or_call (fv := []) (vs := [.slice A2_30 (o) (c2_30)]) (cs := []) en14 rfl rfl (call_v (fun w hw => none_c w A2_30 o c2_30 ((slacksV ys_11).take o) ((holds_takeC (k := o) fI_len (holds_row (List.Mem.head _))) w hw) (by rw [List.length_take]; omega) (by omega) (by rw [List.length_take]; omega)))) (kt_if rfl (fun c71 => ?_) (fun c71 => ?_))
                    ·
                      refine gk (.cons (.head) (.cons (.head) (.cons (.head) (.nil)))) ?_
                      refine wg_take_go (i := 41) rfl rfl rfl (ov_eqlb uI4 rfl rfl) rfl (by kernel_rfl) (by kernel_rfl) (by kernel_rfl) (by kernel_rfl) ?_
                      refine wg_takep (i := 42) rfl (ov_pick_t rfl rfl) rfl rfl rfl (by kernel_rfl) (by kernel_rfl) (by kernel_rfl) rfl ?_
                      refine wg_takep (i := 43) rfl (ov_assign rfl) rfl rfl rfl (by kernel_rfl) (by kernel_rfl) (by kernel_rfl) rfl ?_
                      refine wg_done (by kernel_rfl) ?_
                      refine ce_then ?_
                      refine cw_ret ?_
                      refine ce_results (v := .bool true) (res1 rfl (rv_t rfl)) (fun w' hw => ?_)
                      exact ⟨rfl, (Keep.nil.ss hw).to_new⟩
                    ·
                      refine gk (.cons (.head) (.cons (.head) (.cons (.head) (.nil)))) ?_
                      refine wg_take_go (i := 41) rfl rfl rfl (ov_eqlb uI4 rfl rfl) rfl (by kernel_rfl) (by kernel_rfl) (by kernel_rfl) (by kernel_rfl) ?_
                      refine wg_takep (i := 42) rfl (ov_pick_t rfl rfl) rfl rfl rfl (by kernel_rfl) (by kernel_rfl) (by kernel_rfl) rfl ?_
                      refine wg_takep (i := 43) rfl (ov_assign rfl) rfl rfl rfl (by kernel_rfl) (by kernel_rfl) (by kernel_rfl) rfl ?_
                      refine wg_done (by kernel_rfl) ?_
                      refine ce_then ?_
                      refine cw_ret ?_
                      refine ce_results (v := .bool false) (res1 rfl (rv_t rfl)) (fun w' hw => ?_)
                      exfalso
                      exact c71 (hdn.1 c67)
                  ·
                    refine gk (.cons (.head) (.cons (.head) (.cons (.head) (.nil)))) ?_
                    refine wg_one (i := 40) (by kernel_rfl) ?_
                    refine go_rg rfl rfl rfl rfl (or_call (fv := []) (vs := [.slice A2_30 (o) (c2_30)]) (cs := []) en14 rfl rfl (call_v (fun w hw => none_c w A2_30 o c2_30 ((slacksV ys_11).take o) ((holds_takeC (k := o) fI_len (holds_row (List.Mem.head _))) w hw) (by rw [List.length_take]; omega) (by omega) (by rw [List.length_take]; omega)))) (kt_if rfl (fun c71 => ?_) (fun c71 => ?_))
                    ·
                      refine gk (.cons (.head) (.cons (.head) (.cons (.head) (.nil)))) ?_
                      refine wg_take_go (i := 41) rfl rfl rfl (ov_eqlb uI4 rfl rfl) rfl (by kernel_rfl) (by kernel_rfl) (by kernel_rfl) (by kernel_rfl) ?_
                      refine wg_takep (i := 42) rfl (ov_pick_t rfl rfl) rfl rfl rfl (by kernel_rfl) (by kernel_rfl) (by kernel_rfl) rfl ?_
                      refine wg_takep (i := 43) rfl (ov_assign rfl) rfl rfl rfl (by kernel_rfl) (by kernel_rfl) (by kernel_rfl) rfl ?_
                      refine wg_done (by kernel_rfl) ?_
                      refine ce_then ?_
                      refine cw_ret ?_
                      refine ce_results (v := .bool false) (res1 rfl (rv_t rfl)) (fun w' hw => ?_)
                      exfalso
                      exact c67 (hdn.2 c71)
                    ·
                      refine gk (.cons (.head) (.cons (.head) (.cons (.head) (.nil)))) ?_
                      refine wg_take_go (i := 41) rfl rfl rfl (ov_eqlb uI4 rfl rfl) rfl (by kernel_rfl) (by kernel_rfl) (by kernel_rfl) (by kernel_rfl) ?_
                      refine wg_takep (i := 42) rfl (ov_pick_t rfl rfl) rfl rfl rfl (by kernel_rfl) (by kernel_rfl) (by kernel_rfl) rfl ?_
                      refine wg_takep (i := 43) rfl (ov_assign rfl) rfl rfl rfl (by kernel_rfl) (by kernel_rfl) (by kernel_rfl) rfl ?_
                      refine wg_done (by kernel_rfl) ?_
                      refine ce_then ?_
                      refine cw_ret ?_
                      refine ce_results (v := .bool true) (res1 rfl (rv_t rfl)) (fun w' hw => ?_)
                      exact ⟨rfl, (Keep.nil.ss hw).to_new⟩
            ·
              refine wg_take_go (i := 17) rfl rfl rfl (ov_move rfl) rfl (by kernel_rfl) (by kernel_rfl) (by kernel_rfl) (by kernel_rfl) ?_
              refine wg_take_go (i := 18) rfl rfl rfl (ov_move rfl) rfl (by kernel_rfl) (by kernel_rfl) (by kernel_rfl) (by kernel_rfl) ?_
              refine wg_take_go (i := 19) rfl rfl rfl (ov_move rfl) rfl (by kernel_rfl) (by kernel_rfl) (by kernel_rfl) (by kernel_rfl) ?_
              refine wg_take_go (i := 20) rfl rfl rfl (ov_index (k := o) (c := c2_28) sI23 tI3 rfl rfl (some_holds (q := o * 1) (holds_row (List.Mem.tail _ (List.Mem.head _))) (by rw [cells_length fI_len]; have hlt : o < (sortedL ys_11).length := (by omega); omega)) (show o < (sortedL ys_11).length from (by omega))) rfl (by kernel_rfl) (by kernel_rfl) (by kernel_rfl) (by kernel_rfl) ?_
              refine wg_take_go (i := 21) rfl rfl rfl (ov_load tI3 (holds_row (List.Mem.tail _ (List.Mem.head _))) rfl (get_fI (show o < (sortedL ys_11).length from (by omega)))) rfl (by kernel_rfl) (by kernel_rfl) (by kernel_rfl) (by kernel_rfl) ?_
              refine wg_take_go (i := 22) rfl rfl rfl (ov_move rfl) rfl (by kernel_rfl) (by kernel_rfl) (by kernel_rfl) (by kernel_rfl) ?_
              refine wg_take_go_if (i := 23) rfl rfl rfl (ov_lss rfl rfl) rfl (by kernel_rfl) (by kernel_rfl) (by kernel_rfl) (by kernel_rfl) (fun c54 => ?_) (fun c54 => ?_)
              ·
                refine wg_take_go (i := 24) rfl rfl rfl (ov_pick_f rfl rfl) rfl (by kernel_rfl) (by kernel_rfl) (by kernel_rfl) (by kernel_rfl) ?_
                refine wg_takep (i := 25) rfl (ov_pick_t rfl rfl) rfl rfl rfl (by kernel_rfl) (by kernel_rfl) (by kernel_rfl) rfl ?_
                refine wg_takep (i := 26) rfl (ov_move rfl) rfl rfl rfl (by kernel_rfl) (by kernel_rfl) (by kernel_rfl) rfl ?_
                refine wg_take_go (i := 27) rfl rfl rfl (ov_move rfl) rfl (by kernel_rfl) (by kernel_rfl) (by kernel_rfl) (by kernel_rfl) ?_
                refine wg_take_go (i := 28) rfl rfl rfl (ov_len (sliceI_spec sI23) rfl) rfl (by kernel_rfl) (by kernel_rfl) (by kernel_rfl) (by kernel_rfl) ?_
                refine wg_take_go_if (i := 29) rfl rfl rfl (ov_eql rfl rfl) rfl (by kernel_rfl) (by kernel_rfl) (by kernel_rfl) (by kernel_rfl) (fun c60 => ?_) (fun c60 => ?_)
                ·
                  refine wg_take_go (i := 30) rfl rfl rfl (ov_move rfl) rfl (by kernel_rfl) (by kernel_rfl) (by kernel_rfl) (by kernel_rfl) ?_
                  refine wg_take_go_if (i := 31) rfl rfl rfl (ov_eql rfl rfl) rfl (by kernel_rfl) (by kernel_rfl) (by kernel_rfl) (by kernel_rfl) (fun c62 => ?_) (fun c62 => ?_)
                  ·
                    refine wg_take_go (i := 32) rfl rfl rfl (ov_eqlb uI4 rfl rfl) rfl (by kernel_rfl) (by kernel_rfl) (by kernel_rfl) (by kernel_rfl) ?_
                    refine wg_takep (i := 33) rfl (ov_pick_t rfl rfl) rfl rfl rfl (by kernel_rfl) (by kernel_rfl) (by kernel_rfl) rfl ?_
                    refine wg_takep (i := 34) rfl (ov_move rfl) rfl rfl rfl (by kernel_rfl) (by kernel_rfl) (by kernel_rfl) rfl ?_
                    refine wg_take_go (i := 35) rfl rfl rfl (ov_move rfl) rfl (by kernel_rfl) (by kernel_rfl) (by kernel_rfl) (by kernel_rfl) ?_
                    refine wg_take_go (i := 37) rfl rfl rfl (ov_move rfl) rfl (by kernel_rfl) (by kernel_rfl) (by kernel_rfl) (by kernel_rfl) ?_
                    refine wg_take_go (i := 38) rfl rfl rfl (ov_move rfl) rfl (by kernel_rfl) (by kernel_rfl) (by kernel_rfl) (by kernel_rfl) ?_
                    refine wg_take_go (i := 39) rfl rfl rfl (ov_slice_h (h := o) sI23 tI3 rfl rfl (by omega)) rfl (by kernel_rfl) (by kernel_rfl) (by kernel_rfl) (by kernel_rfl) ?_
                    refine wg_one (i := 36) (by kernel_rfl) ?_
                    refine go_rg rfl rfl rfl rfl (or_call (fv := []) (vs := [.slice A2_30 ((slacksV ys_11).length) (c2_30)]) (cs := []) en14 rfl rfl (call_v (fun w hw => none_c w A2_30 ((slacksV ys_11).length) c2_30 (slacksV ys_11) ((holds_row (List.Mem.head _)) w hw) rfl h_30 (by omega)))) (kt_if rfl (fun c67 => ?_) (fun c67 => ?_))
                    ·
                      refine gk (.cons (.head) (.cons (.head) (.cons (.head) (.nil)))) ?_
                      refine wg_one (i := 40) (by kernel_rfl) ?_
                      refine go_rg rfl rfl rfl rfl (or_call (fv := []) (vs := [.slice A2_30 (o) (c2_30)]) (cs := []) en14 rfl rfl (call_v (fun w hw => none_c w A2_30 o c2_30 ((slacksV ys_11).take o) ((holds_takeC (k := o) fI_len (holds_row (List.Mem.head _))) w hw) (by rw [List.length_take]; omega) (by omega) (by rw [List.length_take]; omega)))) (kt_if rfl (fun c71 => ?_) (fun c71 => ?_))
                      ·
                        refine gk (.cons (.head) (.cons (.head) (.cons (.head) (.nil)))) ?_
                        refine wg_take_go (i := 41) rfl rfl rfl (ov_eqlb uI4 rfl rfl) rfl (by kernel_rfl) (by kernel_rfl) (by kernel_rfl) (by kernel_rfl) ?_
                        refine wg_takep (i := 42) rfl (ov_pick_t rfl rfl) rfl rfl rfl (by kernel_rfl) (by kernel_rfl) (by kernel_rfl) rfl ?_
                        refine wg_takep (i := 43) rfl (ov_assign rfl) rfl rfl rfl (by kernel_rfl) (by kernel_rfl) (by kernel_rfl) rfl ?_
                        refine wg_done (by kernel_rfl) ?_
                        refine ce_then ?_
                        refine cw_ret ?_
                        refine ce_results (v := .bool true) (res1 rfl (rv_t rfl)) (fun w' hw => ?_)
                        exact ⟨rfl, (Keep.nil.ss hw).to_new⟩
                      ·
                        refine gk (.cons (.head) (.cons (.head) (.cons (.head) (.nil)))) ?_
                        refine wg_take_go (i := 41) rfl rfl rfl (ov_eqlb uI4 rfl rfl) rfl (by kernel_rfl) (by kernel_rfl) (by kernel_rfl) (by kernel_rfl) ?_
                        refine wg_takep (i := 42) rfl (ov_pick_t rfl rfl) rfl rfl rfl (by kernel_rfl) (by kernel_rfl) (by kernel_rfl) rfl ?_
                        refine wg_takep (i := 43) rfl (ov_assign rfl) rfl rfl rfl (by kernel_rfl) (by kernel_rfl) (by kernel_rfl) rfl ?_
                        refine wg_done (by kernel_rfl) ?_
                        refine ce_then ?_
                        refine cw_ret ?_
                        refine ce_results (v := .bool false) (res1 rfl (rv_t rfl)) (fun w' hw => ?_)
                        exfalso
                        exact c71 (hdn.1 c67)
                    ·
                      refine gk (.cons (.head) (.cons (.head) (.cons (.head) (.nil)))) ?_
                      refine wg_one (i := 40) (by kernel_rfl) ?_
                      refine go_rg rfl rfl rfl rfl (or_call (fv := []) (vs := [.slice A2_30 (o) (c2_30)]) (cs := []) en14 rfl rfl (call_v (fun w hw => none_c w A2_30 o c2_30 ((slacksV ys_11).take o) ((holds_takeC (k := o) fI_len (holds_row (List.Mem.head _))) w hw) (by rw [List.length_take]; omega) (by omega) (by rw [List.length_take]; omega)))) (kt_if rfl (fun c71 => ?_) (fun c71 => ?_))
                      ·
                        refine gk (.cons (.head) (.cons (.head) (.cons (.head) (.nil)))) ?_
                        refine wg_take_go (i := 41) rfl rfl rfl (ov_eqlb uI4 rfl rfl) rfl (by kernel_rfl) (by kernel_rfl) (by kernel_rfl) (by kernel_rfl) ?_
                        refine wg_takep (i := 42) rfl (ov_pick_t rfl rfl) rfl rfl rfl (by kernel_rfl) (by kernel_rfl) (by kernel_rfl) rfl ?_
                        refine wg_takep (i := 43) rfl (ov_assign rfl) rfl rfl rfl (by kernel_rfl) (by kernel_rfl) (by kernel_rfl) rfl ?_
                        refine wg_done (by kernel_rfl) ?_
                        refine ce_then ?_
                        refine cw_ret ?_
                        refine ce_results (v := .bool false) (res1 rfl (rv_t rfl)) (fun w' hw => ?_)
                        exfalso
                        exact c67 (hdn.2 c71)
                      ·
                        refine gk (.cons (.head) (.cons (.head) (.cons (.head) (.nil)))) ?_
                        refine wg_take_go (i := 41) rfl rfl rfl (ov_eqlb uI4 rfl rfl) rfl (by kernel_rfl) (by kernel_rfl) (by kernel_rfl) (by kernel_rfl) ?_
                        refine wg_takep (i := 42) rfl (ov_pick_t rfl rfl) rfl rfl rfl (by kernel_rfl) (by kernel_rfl) (by kernel_rfl) rfl ?_
                        refine wg_takep (i := 43) rfl (ov_assign rfl) rfl rfl rfl (by kernel_rfl) (by kernel_rfl) (by kernel_rfl) rfl ?_
                        refine wg_done (by kernel_rfl) ?_
                        refine ce_then ?_
                        refine cw_ret ?_
                        refine ce_results (v := .bool true) (res1 rfl (rv_t rfl)) (fun w' hw => ?_)
                        exact ⟨rfl, (Keep.nil.ss hw).to_new⟩
                  ·
                    refine wg_take_go (i := 32) rfl rfl rfl (ov_eqlb uI4 rfl rfl) rfl (by kernel_rfl) (by kernel_rfl) (by kernel_rfl) (by kernel_rfl) ?_
                    refine wg_takep (i := 33) rfl (ov_pick_t rfl rfl) rfl rfl rfl (by kernel_rfl) (by kernel_rfl) (by kernel_rfl) rfl ?_
                    refine wg_takep (i := 34) rfl (ov_move rfl) rfl rfl rfl (by kernel_rfl) (by kernel_rfl) (by kernel_rfl) rfl ?_
                    refine wg_take_not (i := 35) rfl rfl rfl rfl rfl (by kernel_rfl) (by kernel_rfl) (by kernel_rfl) (by kernel_rfl) ?_
                    refine wg_take_not (i := 36) rfl rfl rfl rfl rfl (by kernel_rfl) (by kernel_rfl) (by kernel_rfl) (by kernel_rfl) ?_
                    refine wg_take_not (i := 37) rfl rfl rfl rfl rfl (by kernel_rfl) (by kernel_rfl) (by kernel_rfl) (by kernel_rfl) ?_
                    refine wg_take_not (i := 38) rfl rfl rfl rfl rfl (by kernel_rfl) (by kernel_rfl) (by kernel_rfl) (by kernel_rfl) ?_
                    refine wg_take_not (i := 39) rfl rfl rfl rfl rfl (by kernel_rfl) (by kernel_rfl) (by kernel_rfl) (by kernel_rfl) ?_
                    refine wg_take_not (i := 40) rfl rfl rfl rfl rfl (by kernel_rfl) (by kernel_rfl) (by kernel_rfl) (by kernel_rfl) ?_
                    refine wg_take_not (i := 41) rfl rfl rfl rfl rfl (by kernel_rfl) (by kernel_rfl) (by kernel_rfl) (by kernel_rfl) ?_
                    refine wg_takep (i := 42) rfl (ov_pick_f rfl rfl) rfl rfl rfl (by kernel_rfl) (by kernel_rfl) (by kernel_rfl) rfl ?_
                    refine wg_takep (i := 43) rfl (ov_assign rfl) rfl rfl rfl (by kernel_rfl) (by kernel_rfl) (by kernel_rfl) rfl ?_
                    refine wg_done (by kernel_rfl) ?_
                    refine ce_then ?_
                    refine cw_ret ?_
                    refine ce_results (v := .bool false) (res1 rfl (rv_t rfl)) (fun w' hw => ?_)
                    exfalso
                    omega
                ·
                  refine wg_take_go (i := 30) rfl rfl rfl (ov_move rfl) rfl (by kernel_rfl) (by kernel_rfl) (by kernel_rfl) (by kernel_rfl) ?_
                  refine wg_take_go_if (i := 31) rfl rfl rfl (ov_eql rfl rfl) rfl (by kernel_rfl) (by kernel_rfl) (by kernel_rfl) (by kernel_rfl) (fun c62 => ?_) (fun c62 => ?_)
                  ·
                    refine wg_take_go (i := 32) rfl rfl rfl (ov_eqlb uI4 rfl rfl) rfl (by kernel_rfl) (by kernel_rfl) (by kernel_rfl) (by kernel_rfl) ?_
                    refine wg_takep (i := 33) rfl (ov_pick_t rfl rfl) rfl rfl rfl (by kernel_rfl) (by kernel_rfl) (by kernel_rfl) rfl ?_
                    refine wg_takep (i := 34) rfl (ov_move rfl) rfl rfl rfl (by kernel_rfl) (by kernel_rfl) (by kernel_rfl) rfl ?_
                    refine wg_take_not (i := 35) rfl rfl rfl rfl rfl (by kernel_rfl) (by kernel_rfl) (by kernel_rfl) (by kernel_rfl) ?_
                    refine wg_take_not (i := 36) rfl rfl rfl rfl rfl (by kernel_rfl) (by kernel_rfl) (by kernel_rfl) (by kernel_rfl) ?_
                    refine wg_take_not (i := 37) rfl rfl rfl rfl rfl (by kernel_rfl) (by kernel_rfl) (by kernel_rfl) (by kernel_rfl) ?_
                    refine wg_take_not (i := 38) rfl rfl rfl rfl rfl (by kernel_rfl) (by kernel_rfl) (by kernel_rfl) (by kernel_rfl) ?_
                    refine wg_take_not (i := 39) rfl rfl rfl rfl rfl (by kernel_rfl) (by kernel_rfl) (by kernel_rfl) (by kernel_rfl) ?_
                    refine wg_take_not (i := 40) rfl rfl rfl rfl rfl (by kernel_rfl) (by kernel_rfl) (by kernel_rfl) (by kernel_rfl) ?_
                    refine wg_take_not (i := 41) rfl rfl rfl rfl rfl (by kernel_rfl) (by kernel_rfl) (by kernel_rfl) (by kernel_rfl) ?_
                    refine wg_takep (i := 42) rfl (ov_pick_f rfl rfl) rfl rfl rfl (by kernel_rfl) (by kernel_rfl) (by kernel_rfl) rfl ?_
                    refine wg_takep (i := 43) rfl (ov_assign rfl) rfl rfl rfl (by kernel_rfl) (by kernel_rfl) (by kernel_rfl) rfl ?_
                    refine wg_done (by kernel_rfl) ?_
                    refine ce_then ?_
                    refine cw_ret ?_
                    refine ce_results (v := .bool false) (res1 rfl (rv_t rfl)) (fun w' hw => ?_)
                    exfalso
                    have := hdp (by omega)
                    omega
                  ·
                    refine wg_take_go (i := 32) rfl rfl rfl (ov_eqlb uI4 rfl rfl) rfl (by kernel_rfl) (by kernel_rfl) (by kernel_rfl) (by kernel_rfl) ?_
                    refine wg_takep (i := 33) rfl (ov_pick_t rfl rfl) rfl rfl rfl (by kernel_rfl) (by kernel_rfl) (by kernel_rfl) rfl ?_
                    refine wg_takep (i := 34) rfl (ov_move rfl) rfl rfl rfl (by kernel_rfl) (by kernel_rfl) (by kernel_rfl) rfl ?_
                    refine wg_take_go (i := 35) rfl rfl rfl (ov_move rfl) rfl (by kernel_rfl) (by kernel_rfl) (by kernel_rfl) (by kernel_rfl) ?_
                    refine wg_take_go (i := 37) rfl rfl rfl (ov_move rfl) rfl (by kernel_rfl) (by kernel_rfl) (by kernel_rfl) (by kernel_rfl) ?_
                    refine wg_take_go (i := 38) rfl rfl rfl (ov_move rfl) rfl (by kernel_rfl) (by kernel_rfl) (by kernel_rfl) (by kernel_rfl) ?_
                    refine wg_take_go (i := 39) rfl rfl rfl (ov_slice_h (h := o) sI23 tI3 rfl rfl (by omega)) rfl (by kernel_rfl) (by kernel_rfl) (by kernel_rfl) (by kernel_rfl) ?_
                    refine wg_one (i := 36) (by kernel_rfl) ?_
                    refine go_rg rfl rfl rfl rfl (or_call (fv := []) (vs := [.slice A2_30 ((slacksV ys_11).length) (c2_30)]) (cs := []) en14 rfl rfl (call_v (fun w hw => none_c w A2_30 ((slacksV ys_11).length) c2_30 (slacksV ys_11) ((holds_row (List.Mem.head _)) w hw) rfl h_30 (by omega)))) (kt_if rfl (fun c67 => ?_) (fun c67 => ?_))
                    ·
                      refine gk (.cons (.head) (.cons (.head) (.cons (.head) (.nil)))) ?_
                      refine wg_one (i := 40) (by kernel_rfl) ?_
                      refine go_rg rfl rfl rfl rfl (or_call (fv := []) (vs := [.slice A2_30 (o) (c2_30)]) (cs := []) en14 rfl rfl (call_v (fun w hw => none_c w A2_30 o c2_30 ((slacksV ys_11).take o) ((holds_takeC (k := o) fI_len (holds_row (List.Mem.head _))) w hw) (by rw [List.length_take]; omega) (by omega) (by rw [List.length_take]; omega)))) (kt_if rfl (fun c71 => ?_) (fun c71 => ?_))
                      ·
                        refine gk (.cons (.head) (.cons (.head) (.cons (.head) (.nil)))) ?_
                        refine wg_take_go (i := 41) rfl rfl rfl (ov_eqlb uI4 rfl rfl) rfl (by kernel_rfl) (by kernel_rfl) (by kernel_rfl) (by kernel_rfl) ?_
                        refine wg_takep (i := 42) rfl (ov_pick_t rfl rfl) rfl rfl rfl (by kernel_rfl) (by kernel_rfl) (by kernel_rfl) rfl ?_
                        refine wg_takep (i := 43) rfl (ov_assign rfl) rfl rfl rfl (by kernel_rfl) (by kernel_rfl) (by kernel_rfl) rfl ?_
                        refine wg_done (by kernel_rfl) ?_
                        refine ce_then ?_
                        refine cw_ret ?_
                        refine ce_results (v := .bool true) (res1 rfl (rv_t rfl)) (fun w' hw => ?_)
                        exact ⟨rfl, (Keep.nil.ss hw).to_new⟩
                      ·
                        refine gk (.cons (.head) (.cons (.head) (.cons (.head) (.nil)))) ?_
                        refine wg_take_go (i := 41) rfl rfl rfl (ov_eqlb uI4 rfl rfl) rfl (by kernel_rfl) (by kernel_rfl) (by kernel_rfl) (by kernel_rfl) ?_
                        refine wg_takep (i := 42) rfl (ov_pick_t rfl rfl) rfl rfl rfl (by kernel_rfl) (by kernel_rfl) (by kernel_rfl) rfl ?_
                        refine wg_takep (i := 43) rfl (ov_assign rfl) rfl rfl rfl (by kernel_rfl) (by kernel_rfl) (by kernel_rfl) rfl ?_
                        refine wg_done (by kernel_rfl) ?_
                        refine ce_then ?_
                        refine cw_ret ?_
                        refine ce_results (v := .bool false) (res1 rfl (rv_t rfl)) (fun w' hw => ?_)
                        exfalso
                        exact c71 (hdn.1 c67)
                    ·
                      refine gk (.cons (.head) (.cons (.head) (.cons (.head) (.nil)))) ?_
                      refine wg_one (i := 40) (by kernel_rfl) ?_
                      refine go_rg rfl rfl rfl rfl (or_call (fv := []) (vs := [.slice A2_30 (o) (c2_30)]) (cs := []) en14 rfl rfl (call_v (fun w hw => none_c w A2_30 o c2_30 ((slacksV ys_11).take o) ((holds_takeC (k := o) fI_len (holds_row (List.Mem.head _))) w hw) (by rw [List.length_take]; omega) (by omega) (by rw [List.length_take]; omega)))) (kt_if rfl (fun c71 => ?_) (fun c71 => ?_))
                      ·
                        refine gk (.cons (.head) (.cons (.head) (.cons (.head) (.nil)))) ?_
                        refine wg_take_go (i := 41) rfl rfl rfl (ov_eqlb uI4 rfl rfl) rfl (by kernel_rfl) (by kernel_rfl) (by kernel_rfl) (by kernel_rfl) ?_
                        refine wg_takep (i := 42) rfl (ov_pick_t rfl rfl) rfl rfl rfl (by kernel_rfl) (by kernel_rfl) (by kernel_rfl) rfl ?_
                        refine wg_takep (i := 43) rfl (ov_assign rfl) rfl rfl rfl (by kernel_rfl) (by kernel_rfl) (by kernel_rfl) rfl ?_
                        refine wg_done (by kernel_rfl) ?_
                        refine ce_then ?_
                        refine cw_ret ?_
                        refine ce_results (v := .bool false) (res1 rfl (rv_t rfl)) (fun w' hw => ?_)
                        exfalso
                        exact c67 (hdn.2 c71)
                      ·
                        refine gk (.cons (.head) (.cons (.head) (.cons (.head) (.nil)))) ?_
                        refine wg_take_go (i := 41) rfl rfl rfl (ov_eqlb uI4 rfl rfl) rfl (by kernel_rfl) (by kernel_rfl) (by kernel_rfl) (by kernel_rfl) ?_
                        refine wg_takep (i := 42) rfl (ov_pick_t rfl rfl) rfl rfl rfl (by kernel_rfl) (by kernel_rfl) (by kernel_rfl) rfl ?_
                        refine wg_takep (i := 43) rfl (ov_assign rfl) rfl rfl rfl (by kernel_rfl) (by kernel_rfl) (by kernel_rfl) rfl ?_
                        refine wg_done (by kernel_rfl) ?_
                        refine ce_then ?_
                        refine cw_ret ?_
                        refine ce_results (v := .bool true) (res1 rfl (rv_t rfl)) (fun w' hw => ?_)
                        exact ⟨rfl, (Keep.nil.ss hw).to_new⟩
              ·
                exact absurd (hsp.2.2 o (by omega) (by omega)) c54
          ·
            have hdl := durTo_last (sortedL ys_11) (sortedL ys_11).length (by omega)
            rw [ho, show ((o : Int) - 1).toNat = o - 1 from by omega] at hdl
            omega
      ·
        refine wl_go rfl rfl ?_
        refine wl_v (ov_not rfl) rfl rfl rfl ?_
        refine wl_v (ov_pick_f rfl rfl) rfl rfl rfl ?_
        refine wl_nil ?_
        refine ce_then ?_
        refine cw_true rfl ?_
        refine cw_seq ?_
        refine cw_region ?_
        refine wl_v (ov_move rfl) rfl rfl rfl ?_
        refine wl_v (ov_move rfl) rfl rfl rfl ?_
        refine wl_r (or_call (fv := []) (vs := [.slice A2_11 (ys_11.length) (c2_11)]) (cs := []) en17 rfl rfl (call_v (fun w hw => DurfeeOfS_c w A2_11 ys_11.length c2_11 ys_11 ((holds_row (List.Mem.head _)) w hw) rfl h_11.1 (by first | assumption | omega | (simp; omega))))) rfl rfl (kt0 rfl ?_)
        refine wl_if (ov_eql rfl rfl) rfl rfl rfl (fun c26 => ?_) (fun c26 => ?_)
        ·
          refine wl_v (ov_assign rfl) rfl rfl rfl ?_
          refine wl_nil ?_
          refine ce_then ?_
          refine cw_ret ?_
          refine ce_then_ret ?_
          refine ce_results (v := .bool true) (res1 rfl (rv_t rfl)) (fun w' hw => ?_)
          exact ⟨rfl, (Keep.nil.ss hw).to_new⟩
        ·
          exact absurd ho.symm c26
end Go.Proofs.Ytlgkooeflgmcaaa.LFnDurfeeOf
