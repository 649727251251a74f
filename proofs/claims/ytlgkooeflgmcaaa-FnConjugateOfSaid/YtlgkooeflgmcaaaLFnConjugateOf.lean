/- Walks of functions of the given program: each returns what its Lean function says and leaves the memory that was there as it was. Conditions: those of each theorem. -/
import Derived.Test.YtlgkooeflgmcaaaSz
import Derived.Test.YtlgkooeflgmcaaaProg
import Derived.Test.YtlgkooeflgmcaaaPl
import Derived.Test.YtlgkooeflgmcaaaPo
import Derived.Test.YtlgkooeflgmcaaaPd
import Derived.Test.YtlgkooeflgmcaaaPe
import Derived.Test.YtlgkooeflgmcaaaPf
import Derived.Test.YtlgkooeflgmcaaaSo
import Derived.Test.YtlgkooeflgmcaaaSh
import Derived.Test.YtlgkooeflgmcaaaT
import Derived.Test.YtlgkooeflgmcaaaW2
import Derived.Test.YtlgkooeflgmcaaaW6
import Derived.Test.YtlgkooeflgmcaaaW11
import Derived.Test.YtlgkooeflgmcaaaW12
import Derived.KernelRfl
namespace Go.Proofs.Ytlgkooeflgmcaaa.LFnConjugateOf
open Go.Sx Go.RowKit Go.Proofs.Ytlgkooeflgmcaaa.T Go.Proofs.Ytlgkooeflgmcaaa.W2 Go.Proofs.Ytlgkooeflgmcaaa.W6 Go.Proofs.Ytlgkooeflgmcaaa.W11 Go.Proofs.Ytlgkooeflgmcaaa.W12
open Go.Plain
set_option linter.unusedVariables false
set_option maxRecDepth 100000 in
theorem FnConjugateOf_c (w : World) (Ar : Option Addr) (nr : Nat) (cr : Nat) (bs : List (Nat)) (hAr : At w Ar (cells fY bs)) (eAr : bs.length = nr) (lAr : nr ≤ cr) (hb : ∀ x ∈ bs, x < 256) : Calls Try.prog 6 #[.slice Ar (nr) (cr)] w (Ret fun rv w' => rv = .bool true ∧ New w w' []) := by
  have oAr := hAr.atB
  subst eAr
  refine fn_enter (args := [.slice Ar (bs.length) (cr)]) Try.func6 rfl Try.ntmps6 rfl (SS.start w) ?_
  refine cw_seq ?_
  refine cw_region ?_
  refine wl_v (ov_assign rfl) rfl rfl rfl ?_
  refine wl_nil ?_
  refine ce_then ?_
  refine cw_seq ?_
  refine cw_seq ?_
  refine cw_region ?_
  refine wl_v (ov_move rfl) rfl rfl rfl ?_
  refine wl_v (ov_len (sliceI_spec sI22) rfl) rfl rfl rfl ?_
  refine wl_if (ov_gtr rfl rfl) rfl rfl rfl (fun c8 => ?_) (fun c8 => ?_)
  ·
    refine wl_nil ?_
    refine ce_then ?_
    refine cw_true rfl ?_
    refine cw_seq ?_
    refine cw_region ?_
    refine wl_v (ov_assign rfl) rfl rfl rfl ?_
    refine wl_nil ?_
    refine ce_then ?_
    refine cw_ret ?_
    refine ce_then_ret ?_
    refine ce_results (v := .bool true) (res1 rfl (rv_t rfl)) (fun w' hw => ?_)
    exact ⟨rfl, (Keep.nil.ss hw).to_new⟩
  ·
    refine wl_nil ?_
    refine ce_then ?_
    refine cw_false rfl ?_
    refine cw_skip ?_
    refine ce_then ?_
    refine cw_seq ?_
    refine cw_region ?_
    refine wl_v (ov_move rfl) rfl rfl rfl ?_
    refine wl_r (or_call (fv := []) (vs := [.slice Ar (bs.length) (cr)]) (cs := []) en24 rfl rfl (call_x3 (fun w hw => DrawConjugateOf_c w Ar bs.length cr bs ((holds_old oAr) w hw) rfl lAr (by first | assumption | omega | (simp; omega))))) rfl rfl (kt3p rfl (fun A2_10 c2_10 ys_10 h_10 => ?_))
    have hcl := conjV_len ys_10
    refine wl_v (ov_assign rfl) rfl rfl rfl ?_
    refine wl_nil ?_
    refine ce_then ?_
    refine cw_seq ?_
    refine cw_region ?_
    refine wl_v (ov_move rfl) rfl rfl rfl ?_
    refine wl_r (or_call (fv := []) (vs := [.slice A2_10 (ys_10.length) (c2_10)]) (cs := []) en23 rfl rfl (call_x2 (fun w hw => ConjugateOfI_c w A2_10 ys_10.length c2_10 ys_10 ((holds_row (List.Mem.head _)) w hw) rfl h_10.1 (by first | assumption | omega | (simp; omega))))) rfl rfl (kt2p rfl (fun A2_12 c2_12 h_12 => ?_))
    refine wl_v (ov_assign rfl) rfl rfl rfl ?_
    refine wl_nil ?_
    refine ce_then ?_
    refine cw_seq ?_
    refine cw_seq ?_
    refine cw_region ?_
    refine wl_v (ov_move rfl) rfl rfl rfl ?_
    refine wl_v (ov_move rfl) rfl rfl rfl ?_
    refine wl_r (or_call (fv := []) (vs := [.slice A2_10 (ys_10.length) (c2_10)]) (cs := []) en25 rfl rfl (call_x2 (fun w hw => ConjugateOfS_c w A2_10 ys_10.length c2_10 ys_10 ((holds_row (List.Mem.tail _ (List.Mem.head _))) w hw) rfl h_10.1 (by first | assumption | omega | (simp; omega))))) rfl rfl (kt2p rfl (fun A2_15 c2_15 h_15 => ?_))
    refine wl_r (or_call (fv := []) (vs := [.slice A2_12 ((conjV ys_10).length) (c2_12), .slice A2_15 ((conjV ys_10).length) (c2_15)]) (cs := []) en20 rfl rfl (call_v (fun w hw => equalInts_c w A2_12 ((conjV ys_10).length) c2_12 (conjV ys_10) A2_15 ((conjV ys_10).length) c2_15 (conjV ys_10) ((holds_row (List.Mem.tail _ (List.Mem.head _))) w hw) rfl h_12 ((holds_row (List.Mem.head _)) w hw) rfl h_15 (by first | assumption | omega | (simp; omega))))) rfl rfl (kt_if rfl (fun c16 => ?_) (fun c16 => ?_))
    ·
      refine wl_v (ov_not rfl) rfl rfl rfl ?_
      refine wl_v (ov_move rfl) rfl rfl rfl ?_
      refine wl_go rfl rfl ?_
      refine wl_v (ov_move rfl) rfl rfl rfl ?_
      refine wl_go rfl rfl ?_
      refine wl_r (or_call (fv := []) (vs := [.slice A2_10 (ys_10.length) (c2_10)]) (cs := []) en12 rfl rfl (call_v (fun w hw => validI_c w A2_10 ys_10.length c2_10 ys_10 ((holds_row (List.Mem.tail _ (List.Mem.tail _ (List.Mem.head _)))) w hw) rfl h_10.1 (by first | assumption | omega | (simp; omega))))) rfl rfl (kt_if rfl (fun c20 => ?_) (fun c20 => ?_))
      ·
        have hV := c20
        have hyes := conjV_yes hV
        have hln : (conjV ys_10).length = ys_10.length := by rw [hyes]; simp
        have htt : total (conjV ys_10) = total ys_10 := by rw [hyes]; exact total_conj _ _ (fun x hx => by have := hV.2 x hx; omega)
        have hcs : Small (conjV ys_10) := ⟨by omega, fun x hx => by rw [hyes] at hx; obtain ⟨i, _, rfl⟩ := List.mem_map.1 hx; have := atLeast_bd ys_10 ((i + 1 : Nat) : Int); have := hV.1; show -1000 ≤ conjAt ys_10 i ∧ conjAt ys_10 i ≤ 1000; unfold conjAt; omega⟩
        refine wl_go rfl rfl ?_
        refine wl_v (ov_not rfl) rfl rfl rfl ?_
        refine wl_v (ov_pick_f rfl rfl) rfl rfl rfl ?_
        refine wl_nil ?_
        refine ce_then ?_
        refine cw_false rfl ?_
        refine cw_skip ?_
        refine ce_then ?_
        refine cw_seq ?_
        refine cw_seq ?_
        refine cw_region ?_
        refine wl_v (ov_assign rfl) rfl rfl rfl ?_
        refine wl_nil ?_
        refine ce_then ?_
        refine cw_block ?_
        refine cw_loop1 (fun (k : Nat) => [(3, .slice A2_10 (ys_10.length) (c2_10)), (4, .slice A2_12 ((conjV ys_10).length) (c2_12)), (5, .int .i64 (((k + 1 : Nat) : Int)))]) (fun (k : Nat) => [row 3 1 A2_15 ((conjV ys_10).length) (c2_15) (cells fI (conjV ys_10)), row 3 1 A2_12 ((conjV ys_10).length) (c2_12) (cells fI (conjV ys_10)), row 3 1 A2_10 (ys_10.length) (c2_10) (cells fI ys_10)]) (fun (k : Nat) => True) (fun (k : Nat) => (conjV ys_10).length - k) 0 trivial (.cons rfl (.cons rfl (.cons (congrArg (fun z => some (Value.int .i64 z)) (show 1 = ((0 + 1 : Nat) : Int) by first | omega | rfl | (simp; done))) (.nil)))) (.cons (.head) (.cons (.head) (.cons (.head) (.nil)))) ?_
        intro R0 k hk hR0
        refine cw_seq ?_
        refine cw_seq ?_
        refine cw_region ?_
        refine wl_v (ov_move rfl) rfl rfl rfl ?_
        refine wl_v (ov_move rfl) rfl rfl rfl ?_
        refine wl_v (ov_len (sliceI_spec sI23) rfl) rfl rfl rfl ?_
        refine wl_if (ov_lss rfl rfl) rfl rfl rfl (fun c30 => ?_) (fun c30 => ?_)
        ·
          refine wl_nil ?_
          refine ce_then ?_
          refine cw_true rfl ?_
          refine cw_skip ?_
          refine ce_then ?_
          refine cw_seq ?_
          refine cw_block ?_
          refine cw_seq ?_
          refine cw_draw mixO [] (.cons (.head) (.cons (.head) (.cons (.head) (.nil)))) rfl ?_
          refine wg_takep (i := 0) rfl (ov_move rfl) rfl rfl rfl (by kernel_rfl) (by kernel_rfl) (by kernel_rfl) rfl ?_
          refine wg_takep (i := 1) rfl (ov_move rfl) rfl rfl rfl (by kernel_rfl) (by kernel_rfl) (by kernel_rfl) rfl ?_
          refine wg_takep (i := 2) rfl (ov_sub (r := ((k : Nat) : Int)) rfl rfl (by omega) (by omega)) rfl rfl rfl (by kernel_rfl) (by kernel_rfl) (by kernel_rfl) rfl ?_
          refine wg_take (i := 3) rfl (ov_index (k := k) (c := c2_12) sI23 tI3 rfl rfl (some_holds (q := k * 1) (holds_row (List.Mem.tail _ (List.Mem.head _))) (by rw [cells_length fI_len]; have hlt : k < (conjV ys_10).length := (by omega); omega)) (show k < (conjV ys_10).length from (by omega))) rfl rfl rfl (by kernel_rfl) (by kernel_rfl) (by kernel_rfl) (by kernel_rfl) ?_
          refine wg_take (i := 4) rfl (ov_load tI3 (holds_row (List.Mem.tail _ (List.Mem.head _))) rfl (get_fI (show k < (conjV ys_10).length from (by omega)))) rfl rfl rfl (by kernel_rfl) (by kernel_rfl) (by kernel_rfl) (by kernel_rfl) ?_
          refine wg_takep (i := 5) rfl (ov_move rfl) rfl rfl rfl (by kernel_rfl) (by kernel_rfl) (by kernel_rfl) rfl ?_
          refine wg_takep (i := 6) rfl (ov_move rfl) rfl rfl rfl (by kernel_rfl) (by kernel_rfl) (by kernel_rfl) rfl ?_
          refine wg_take (i := 7) rfl (ov_index (k := k + 1) (c := c2_12) sI23 tI3 rfl rfl (some_holds (q := (k + 1) * 1) (holds_row (List.Mem.tail _ (List.Mem.head _))) (by rw [cells_length fI_len]; have hlt : k + 1 < (conjV ys_10).length := (by omega); omega)) (show k + 1 < (conjV ys_10).length from (by omega))) rfl rfl rfl (by kernel_rfl) (by kernel_rfl) (by kernel_rfl) (by kernel_rfl) ?_
          refine wg_take (i := 8) rfl (ov_load tI3 (holds_row (List.Mem.tail _ (List.Mem.head _))) rfl (get_fI (show k + 1 < (conjV ys_10).length from (by omega)))) rfl rfl rfl (by kernel_rfl) (by kernel_rfl) (by kernel_rfl) (by kernel_rfl) ?_
          refine wg_takep_if (i := 9) rfl (ov_lss rfl rfl) rfl rfl rfl (by kernel_rfl) (by kernel_rfl) (by kernel_rfl) rfl (fun c42 => ?_) (fun c42 => ?_)
          ·
            have h1 := conj_get hV (k := k) (by omega)
            have h2 := conj_get hV (k := k + 1) (by omega)
            have h3 := conj_falls (xs := ys_10) (i := k) (j := k + 1) (by omega)
            omega
          ·
            refine wg_done (by kernel_rfl) ?_
            refine ce_then ?_
            refine cw_false rfl ?_
            refine cw_skip ?_
            refine ce_block ?_
            refine ce_then ?_
            refine cw_region ?_
            refine wl_v (ov_move rfl) rfl rfl rfl ?_
            refine wl_v (ov_add (r := (((k + 1) + 1 : Nat) : Int)) rfl rfl rfl (by omega)) rfl rfl rfl ?_
            refine wl_v (ov_assign rfl) rfl rfl rfl ?_
            refine wl_nil ?_
            exact fun ac_ w_ hs_ => hR0 (k + 1) trivial (by omega) ac_ w_ (hs_.weaken (.cons rfl (.cons rfl (.cons rfl (.nil)))) (.cons (.head) (.cons (.head) (.cons (.head) (.nil)))))
        ·
          refine wl_nil ?_
          refine ce_then ?_
          refine cw_false rfl ?_
          refine cw_exit ?_
          refine ce_then_exit ?_
          refine ce_then_exit ?_
          refine ce_hit ?_
          refine ce_then ?_
          refine cw_seq ?_
          refine cw_region ?_
          refine wl_v (ov_move rfl) rfl rfl rfl ?_
          refine wl_r (or_call (fv := []) (vs := [.slice A2_12 ((conjV ys_10).length) (c2_12)]) (cs := []) en22 rfl rfl (call_v (fun w hw => totalL_c w A2_12 ((conjV ys_10).length) c2_12 (conjV ys_10) ((holds_row (List.Mem.tail _ (List.Mem.head _))) w hw) rfl h_12 hcs))) rfl rfl (kt0 rfl ?_)
          refine wl_v (ov_move rfl) rfl rfl rfl ?_
          refine wl_r (or_call (fv := []) (vs := [.slice A2_10 (ys_10.length) (c2_10)]) (cs := []) en22 rfl rfl (call_v (fun w hw => totalL_c w A2_10 ys_10.length c2_10 ys_10 ((holds_row (List.Mem.tail _ (List.Mem.tail _ (List.Mem.head _)))) w hw) rfl h_10.1 hV.small))) rfl rfl (kt0 rfl ?_)
          refine wl_if (ov_eql rfl rfl) rfl rfl rfl (fun c47 => ?_) (fun c47 => ?_)
          ·
            refine wl_v (ov_move rfl) rfl rfl rfl ?_
            refine wl_go rfl rfl ?_
            refine wl_v (ov_move rfl) rfl rfl rfl ?_
            refine wl_go rfl rfl ?_
            refine wl_r (or_call (fv := []) (vs := [.slice A2_12 ((conjV ys_10).length) (c2_12)]) (cs := []) en12 rfl rfl (call_v (fun w hw => validI_c w A2_12 ((conjV ys_10).length) c2_12 (conjV ys_10) ((holds_row (List.Mem.tail _ (List.Mem.head _))) w hw) rfl h_12 (by omega)))) rfl rfl (kt_if rfl (fun c50 => ?_) (fun c50 => ?_))
            ·
              refine wl_go rfl rfl ?_
              refine wl_v (ov_not rfl) rfl rfl rfl ?_
              refine wl_go rfl rfl ?_
              refine wl_v (ov_move rfl) rfl rfl rfl ?_
              refine wl_go rfl rfl ?_
              refine wl_v (ov_move rfl) rfl rfl rfl ?_
              refine wl_go rfl rfl ?_
              refine wl_r (or_call (fv := []) (vs := [.slice A2_12 ((conjV ys_10).length) (c2_12)]) (cs := []) en23 rfl rfl (call_x2 (fun w hw => ConjugateOfI_c w A2_12 ((conjV ys_10).length) c2_12 (conjV ys_10) ((holds_row (List.Mem.tail _ (List.Mem.head _))) w hw) rfl h_12 (by omega)))) rfl rfl (kt2p rfl (fun A2_54 c2_54 h_54 => ?_))
              refine wl_go rfl rfl ?_
              refine wl_v (ov_move rfl) rfl rfl rfl ?_
              refine wl_go rfl rfl ?_
              refine wl_r (or_call (fv := []) (vs := [.slice A2_10 (ys_10.length) (c2_10)]) (cs := []) en18 rfl rfl (call_x3 (fun w hw => SortDegreesI_c w A2_10 ys_10.length c2_10 ys_10 ((holds_row (List.Mem.tail _ (List.Mem.tail _ (List.Mem.tail _ (List.Mem.head _))))) w hw) rfl h_10.1 (by first | assumption | omega | (simp; omega))))) rfl rfl (kt3p rfl (fun A2_56 c2_56 c3_56 h_56 => ?_))
              refine wl_go rfl rfl ?_
              refine wl_r (or_call (fv := []) (vs := [.slice A2_54 ((conjV (conjV ys_10)).length) (c2_54), .slice A2_56 ((sortedL ys_10).length) (c2_56)]) (cs := []) en20 rfl rfl (call_v (fun w hw => equalInts_c w A2_54 ((conjV (conjV ys_10)).length) c2_54 (conjV (conjV ys_10)) A2_56 ((sortedL ys_10).length) c2_56 (sortedL ys_10) ((holds_row (List.Mem.tail _ (List.Mem.head _))) w hw) rfl h_54 ((holds_row (List.Mem.head _)) w hw) rfl h_56 (by have := conjV_len (conjV ys_10); omega)))) rfl rfl (kt_if rfl (fun c57 => ?_) (fun c57 => ?_))
              ·
                refine wl_go rfl rfl ?_
                refine wl_v (ov_pick_f rfl rfl) rfl rfl rfl ?_
                refine wl_v (ov_pick_t rfl rfl) rfl rfl rfl ?_
                refine wl_v (ov_assign rfl) rfl rfl rfl ?_
                refine wl_nil ?_
                refine ce_then ?_
                refine cw_ret ?_
                refine ce_results (v := .bool true) (res1 rfl (rv_t rfl)) (fun w' hw => ?_)
                exact ⟨rfl, (Keep.nil.ss hw).to_new⟩
              ·
                refine wl_go rfl rfl ?_
                refine wl_v (ov_pick_f rfl rfl) rfl rfl rfl ?_
                refine wl_v (ov_pick_t rfl rfl) rfl rfl rfl ?_
                refine wl_v (ov_assign rfl) rfl rfl rfl ?_
                refine wl_nil ?_
                refine ce_then ?_
                refine cw_ret ?_
                refine ce_results (v := .bool false) (res1 rfl (rv_t rfl)) (fun w' hw => ?_)
                exfalso
                exact c57 (conj_conj hV c50)
            ·
              refine wl_go rfl rfl ?_
              refine wl_v (ov_not rfl) rfl rfl rfl ?_
              refine wl_go rfl rfl ?_
              refine wl_v (ov_move rfl) rfl rfl rfl ?_
              refine wl_not rfl rfl rfl rfl rfl rfl ?_
              refine wl_not rfl rfl rfl rfl rfl rfl ?_
              refine wl_not rfl rfl rfl rfl rfl rfl ?_
              refine wl_not rfl rfl rfl rfl rfl rfl ?_
              refine wl_not rfl rfl rfl rfl rfl rfl ?_
              refine wl_go rfl rfl ?_
              refine wl_v (ov_pick_t rfl rfl) rfl rfl rfl ?_
              refine wl_v (ov_pick_t rfl rfl) rfl rfl rfl ?_
              refine wl_v (ov_assign rfl) rfl rfl rfl ?_
              refine wl_nil ?_
              refine ce_then ?_
              refine cw_ret ?_
              refine ce_results (v := .bool true) (res1 rfl (rv_t rfl)) (fun w' hw => ?_)
              exact ⟨rfl, (Keep.nil.ss hw).to_new⟩
          ·
            refine wl_v (ov_move rfl) rfl rfl rfl ?_
            refine wl_not rfl rfl rfl rfl rfl rfl ?_
            refine wl_not rfl rfl rfl rfl rfl rfl ?_
            refine wl_not rfl rfl rfl rfl rfl rfl ?_
            refine wl_not rfl rfl rfl rfl rfl rfl ?_
            refine wl_notu rfl rfl rfl rfl rfl ?_
            refine wl_notu rfl rfl rfl rfl rfl ?_
            refine wl_notu rfl rfl rfl rfl rfl ?_
            refine wl_notu rfl rfl rfl rfl rfl ?_
            refine wl_notu rfl rfl rfl rfl rfl ?_
            refine wl_not rfl rfl rfl rfl rfl rfl ?_
            refine wl_v (ov_pick_f rfl rfl) rfl rfl rfl ?_
            refine wl_v (ov_assign rfl) rfl rfl rfl ?_
            refine wl_nil ?_
            refine ce_then ?_
            refine cw_ret ?_
            refine ce_results (v := .bool false) (res1 rfl (rv_t rfl)) (fun w' hw => ?_)
            exfalso
            exact c47 htt
      ·
        refine wl_go rfl rfl ?_
        refine wl_v (ov_not rfl) rfl rfl rfl ?_
        refine wl_v (ov_pick_f rfl rfl) rfl rfl rfl ?_
        refine wl_nil ?_
        refine ce_then ?_
        refine cw_true rfl ?_
        refine cw_seq ?_
        refine cw_region ?_
        refine wl_v (ov_move rfl) rfl rfl rfl ?_
        refine wl_v (ov_move rfl) rfl rfl rfl ?_
        refine wl_r (or_call (fv := []) (vs := [.slice A2_10 (ys_10.length) (c2_10)]) (cs := []) en25 rfl rfl (call_x2 (fun w hw => ConjugateOfS_c w A2_10 ys_10.length c2_10 ys_10 ((holds_row (List.Mem.tail _ (List.Mem.tail _ (List.Mem.head _)))) w hw) rfl h_10.1 (by first | assumption | omega | (simp; omega))))) rfl rfl (kt2p rfl (fun A2_25 c2_25 h_25 => ?_))
        refine wl_r (or_call (fv := []) (vs := [.slice A2_12 ((conjV ys_10).length) (c2_12), .slice A2_25 ((conjV ys_10).length) (c2_25)]) (cs := []) en20 rfl rfl (call_v (fun w hw => equalInts_c w A2_12 ((conjV ys_10).length) c2_12 (conjV ys_10) A2_25 ((conjV ys_10).length) c2_25 (conjV ys_10) ((holds_row (List.Mem.tail _ (List.Mem.tail _ (List.Mem.head _)))) w hw) rfl h_12 ((holds_row (List.Mem.head _)) w hw) rfl h_25 (by first | assumption | omega | (simp; omega))))) rfl rfl (kt_if rfl (fun c26 => ?_) (fun c26 => ?_))
        ·
          refine wl_v (ov_assign rfl) rfl rfl rfl ?_
          refine wl_nil ?_
          refine ce_then ?_
          refine cw_ret ?_
          refine ce_then_ret ?_
          refine ce_results (v := .bool true) (res1 rfl (rv_t rfl)) (fun w' hw => ?_)
          exact ⟨rfl, (Keep.nil.ss hw).to_new⟩
        ·
          exact absurd rfl c26
    ·
      exact absurd rfl c16
end Go.Proofs.Ytlgkooeflgmcaaa.LFnConjugateOf
