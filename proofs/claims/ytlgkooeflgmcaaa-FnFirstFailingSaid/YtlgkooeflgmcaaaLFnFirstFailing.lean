/- Walks of functions of the given program: each returns what its Lean function says and leaves the memory that was there as it was. Conditions: those of each theorem. -/
import Derived.Test.YtlgkooeflgmcaaaSz
import Derived.Test.YtlgkooeflgmcaaaProg
import Derived.Test.YtlgkooeflgmcaaaPl
import Derived.Test.YtlgkooeflgmcaaaPo
import Derived.Test.YtlgkooeflgmcaaaPd
import Derived.Test.YtlgkooeflgmcaaaPe
import Derived.Test.YtlgkooeflgmcaaaPf
import Derived.Test.YtlgkooeflgmcaaaSo
import Derived.Test.YtlgkooeflgmcaaaSh
import Derived.Test.YtlgkooeflgmcaaaT
import Derived.Test.YtlgkooeflgmcaaaW2
import Derived.Test.YtlgkooeflgmcaaaW7
import Derived.Test.YtlgkooeflgmcaaaW11
import Derived.Test.YtlgkooeflgmcaaaW12
import Derived.KernelRfl
namespace Go.Proofs.Ytlgkooeflgmcaaa.LFnFirstFailing
open Go.Sx Go.RowKit Go.Proofs.Ytlgkooeflgmcaaa.T Go.Proofs.Ytlgkooeflgmcaaa.W2 Go.Proofs.Ytlgkooeflgmcaaa.W7 Go.Proofs.Ytlgkooeflgmcaaa.W11 Go.Proofs.Ytlgkooeflgmcaaa.W12
open Go.Plain
set_option linter.unusedVariables false
set_option maxRecDepth 100000 in
theorem FnFirstFailing_c (w : World) (Ar : Option Addr) (nr : Nat) (cr : Nat) (bs : List (Nat)) (hAr : At w Ar (cells fY bs)) (eAr : bs.length = nr) (lAr : nr ≤ cr) (hb : ∀ x ∈ bs, x < 256) : Calls Try.prog 3 #[.slice Ar (nr) (cr)] w (Ret fun rv w' => rv = .bool true ∧ New w w' []) := by
  have oAr := hAr.atB
  subst eAr
  refine fn_enter (args := [.slice Ar (bs.length) (cr)]) Try.func3 rfl Try.ntmps3 rfl (SS.start w) ?_
  refine cw_seq ?_
  refine cw_region ?_
  refine wl_v (ov_assign rfl) rfl rfl rfl ?_
  refine wl_nil ?_
  refine ce_then ?_
  refine cw_seq ?_
  refine cw_seq ?_
  refine cw_region ?_
  refine wl_v (ov_move rfl) rfl rfl rfl ?_
  refine wl_v (ov_len (sliceI_spec sI22) rfl) rfl rfl rfl ?_
  refine wl_if (ov_gtr rfl rfl) rfl rfl rfl (fun c8 => ?_) (fun c8 => ?_)
  ·
    refine wl_nil ?_
    refine ce_then ?_
    refine cw_true rfl ?_
    refine cw_seq ?_
    refine cw_region ?_
    refine wl_v (ov_assign rfl) rfl rfl rfl ?_
    refine wl_nil ?_
    refine ce_then ?_
    refine cw_ret ?_
    refine ce_then_ret ?_
    refine ce_results (v := .bool true) (res1 rfl (rv_t rfl)) (fun w' hw => ?_)
    exact ⟨rfl, (Keep.nil.ss hw).to_new⟩
  ·
    refine wl_nil ?_
    refine ce_then ?_
    refine cw_false rfl ?_
    refine cw_skip ?_
    refine ce_then ?_
    refine cw_seq ?_
    refine cw_region ?_
    refine wl_v (ov_move rfl) rfl rfl rfl ?_
    refine wl_r (or_call (fv := []) (vs := [.slice Ar (bs.length) (cr)]) (cs := []) en9 rfl rfl (call_x3 (fun w hw => DrawFirstFailing_c w Ar bs.length cr bs ((holds_old oAr) w hw) rfl lAr (by first | assumption | omega | (simp; omega))))) rfl rfl (kt3p rfl (fun A2_10 c2_10 ys_10 h_10 => ?_))
    have hif := idx_first (L := slacksV ys_10)
    have hsl := slacksV_len ys_10
    refine wl_v (ov_assign rfl) rfl rfl rfl ?_
    refine wl_nil ?_
    refine ce_then ?_
    refine cw_seq ?_
    refine cw_region ?_
    refine wl_v (ov_move rfl) rfl rfl rfl ?_
    refine wl_r (or_call (fv := []) (vs := [.slice A2_10 (ys_10.length) (c2_10)]) (cs := []) en10 rfl rfl (call_v (fun w hw => FirstFailingI_c w A2_10 ys_10.length c2_10 ys_10 ((holds_row (List.Mem.head _)) w hw) rfl h_10.1 (by first | assumption | omega | (simp; omega))))) rfl rfl (kt0 rfl ?_)
    refine wl_v (ov_assign rfl) rfl rfl rfl ?_
    refine wl_nil ?_
    refine ce_then ?_
    refine cw_seq ?_
    refine cw_seq ?_
    refine cw_region ?_
    refine wl_v (ov_move rfl) rfl rfl rfl ?_
    refine wl_v (ov_move rfl) rfl rfl rfl ?_
    refine wl_r (or_call (fv := []) (vs := [.slice A2_10 (ys_10.length) (c2_10)]) (cs := []) en11 rfl rfl (call_v (fun w hw => FirstFailingS_c w A2_10 ys_10.length c2_10 ys_10 ((holds_row (List.Mem.head _)) w hw) rfl h_10.1 (by first | assumption | omega | (simp; omega))))) rfl rfl (kt0 rfl ?_)
    refine wl_if (ov_neq rfl rfl) rfl rfl rfl (fun c16 => ?_) (fun c16 => ?_)
    ·
      exact absurd rfl c16
    ·
      refine wl_v (ov_move rfl) rfl rfl rfl ?_
      refine wl_go rfl rfl ?_
      refine wl_v (ov_move rfl) rfl rfl rfl ?_
      refine wl_go rfl rfl ?_
      refine wl_r (or_call (fv := []) (vs := [.slice A2_10 (ys_10.length) (c2_10)]) (cs := []) en12 rfl rfl (call_v (fun w hw => validI_c w A2_10 ys_10.length c2_10 ys_10 ((holds_row (List.Mem.head _)) w hw) rfl h_10.1 (by first | assumption | omega | (simp; omega))))) rfl rfl (kt_if rfl (fun c19 => ?_) (fun c19 => ?_))
      ·
        refine wl_go rfl rfl ?_
        refine wl_v (ov_not rfl) rfl rfl rfl ?_
        refine wl_v (ov_pick_f rfl rfl) rfl rfl rfl ?_
        refine wl_nil ?_
        refine ce_then ?_
        refine cw_false rfl ?_
        refine cw_skip ?_
        refine ce_then ?_
        refine cw_seq ?_
        refine cw_region ?_
        refine wl_v (ov_move rfl) rfl rfl rfl ?_
        refine wl_r (or_call (fv := []) (vs := [.slice A2_10 (ys_10.length) (c2_10)]) (cs := []) en13 rfl rfl (call_x2 (fun w hw => SlacksOfI_c w A2_10 ys_10.length c2_10 ys_10 ((holds_row (List.Mem.head _)) w hw) rfl h_10.1 (by first | assumption | omega | (simp; omega))))) rfl rfl (kt2p rfl (fun A2_27 c2_27 h_27 => ?_))
        refine wl_v (ov_assign rfl) rfl rfl rfl ?_
        refine wl_nil ?_
        refine ce_then ?_
        refine cw_seq ?_
        refine cw_seq ?_
        refine cw_region ?_
        refine wl_v (ov_move rfl) rfl rfl rfl ?_
        refine wl_if (ov_eql rfl rfl) rfl rfl rfl (fun c29 => ?_) (fun c29 => ?_)
        ·
          refine wl_nil ?_
          refine ce_then ?_
          refine cw_true rfl ?_
          refine cw_seq ?_
          refine cw_region ?_
          refine wl_v (ov_move rfl) rfl rfl rfl ?_
          refine wl_r (or_call (fv := []) (vs := [.slice A2_27 ((slacksV ys_10).length) (c2_27)]) (cs := []) en14 rfl rfl (call_v (fun w hw => none_c w A2_27 ((slacksV ys_10).length) c2_27 (slacksV ys_10) ((holds_row (List.Mem.head _)) w hw) rfl h_27 (by first | assumption | omega | (simp; omega))))) rfl rfl (kt_if rfl (fun c31 => ?_) (fun c31 => ?_))
          ·
            refine wl_v (ov_assign rfl) rfl rfl rfl ?_
            refine wl_nil ?_
            refine ce_then ?_
            refine cw_ret ?_
            refine ce_then_ret ?_
            refine ce_results (v := .bool true) (res1 rfl (rv_t rfl)) (fun w' hw => ?_)
            exact ⟨rfl, (Keep.nil.ss hw).to_new⟩
          ·
            exact absurd (hif.elim (fun h => h.2) (fun h => by omega)) c31
        ·
          have hif2 := hif.resolve_left (fun h => c29 h.1)
          refine wl_nil ?_
          refine ce_then ?_
          refine cw_false rfl ?_
          refine cw_skip ?_
          refine ce_then ?_
          refine cw_seq ?_
          refine cw_region ?_
          refine wl_v (ov_move rfl) rfl rfl rfl ?_
          refine wl_v (ov_move rfl) rfl rfl rfl ?_
          refine wl_v (ov_sub (r := idxF (fun x => decide (x < 0)) (slacksV ys_10)) rfl rfl (by omega) (by omega)) rfl rfl rfl ?_
          refine wl_v (ov_indexg sI23 tI3 rfl rfl (some_holds (q := ((idxF (fun x => decide (x < 0)) (slacksV ys_10)).toNat) * 1) (holds_row (List.Mem.head _)) (by rw [cells_length fI_len]; have hlt : (idxF (fun x => decide (x < 0)) (slacksV ys_10)).toNat < (slacksV ys_10).length := (by omega); omega)) (by omega) (show (idxF (fun x => decide (x < 0)) (slacksV ys_10)).toNat < (slacksV ys_10).length from (by omega))) rfl rfl rfl ?_
          refine wl_v (ov_load tI3 (holds_row (List.Mem.head _)) rfl (get_fI (show (idxF (fun x => decide (x < 0)) (slacksV ys_10)).toNat < (slacksV ys_10).length from (by omega)))) rfl rfl rfl ?_
          refine wl_if (ov_lss rfl rfl) rfl rfl rfl (fun c37 => ?_) (fun c37 => ?_)
          ·
            refine wl_v (ov_move rfl) rfl rfl rfl ?_
            refine wl_go rfl rfl ?_
            refine wl_v (ov_move rfl) rfl rfl rfl ?_
            refine wl_go rfl rfl ?_
            refine wl_v (ov_move rfl) rfl rfl rfl ?_
            refine wl_go rfl rfl ?_
            refine wl_v (ov_sub (r := (((idxF (fun x => decide (x < 0)) (slacksV ys_10)).toNat : Nat) : Int)) rfl rfl (by omega) (by omega)) rfl rfl rfl ?_
            refine wl_go rfl rfl ?_
            refine wl_v (ov_slice_h (h := (idxF (fun x => decide (x < 0)) (slacksV ys_10)).toNat) sI23 tI3 rfl rfl (by omega)) rfl rfl rfl ?_
            refine wl_go rfl rfl ?_
            refine wl_r (or_call (fv := []) (vs := [.slice A2_27 ((idxF (fun x => decide (x < 0)) (slacksV ys_10)).toNat) (c2_27)]) (cs := []) en14 rfl rfl (call_v (fun w hw => none_c w A2_27 ((idxF (fun x => decide (x < 0)) (slacksV ys_10)).toNat) c2_27 ((slacksV ys_10).take ((idxF (fun x => decide (x < 0)) (slacksV ys_10)).toNat)) ((holds_takeC (k := ((idxF (fun x => decide (x < 0)) (slacksV ys_10)).toNat)) fI_len (holds_row (List.Mem.head _))) w hw) (by rw [List.length_take]; omega) (by omega) (by rw [List.length_take]; omega)))) rfl rfl (kt_if rfl (fun c43 => ?_) (fun c43 => ?_))
            ·
              refine wl_v (ov_pick_t rfl rfl) rfl rfl rfl ?_
              refine wl_v (ov_assign rfl) rfl rfl rfl ?_
              refine wl_nil ?_
              refine ce_then ?_
              refine cw_ret ?_
              refine ce_results (v := .bool true) (res1 rfl (rv_t rfl)) (fun w' hw => ?_)
              exact ⟨rfl, (Keep.nil.ss hw).to_new⟩
            ·
              refine wl_v (ov_pick_t rfl rfl) rfl rfl rfl ?_
              refine wl_v (ov_assign rfl) rfl rfl rfl ?_
              refine wl_nil ?_
              refine ce_then ?_
              refine cw_ret ?_
              refine ce_results (v := .bool false) (res1 rfl (rv_t rfl)) (fun w' hw => ?_)
              exfalso
              exact c43 hif2.2.2.2
          ·
            refine wl_v (ov_move rfl) rfl rfl rfl ?_
            refine wl_not rfl rfl rfl rfl rfl rfl ?_
            refine wl_not rfl rfl rfl rfl rfl rfl ?_
            refine wl_not rfl rfl rfl rfl rfl rfl ?_
            refine wl_not rfl rfl rfl rfl rfl rfl ?_
            refine wl_not rfl rfl rfl rfl rfl rfl ?_
            refine wl_v (ov_pick_f rfl rfl) rfl rfl rfl ?_
            refine wl_v (ov_assign rfl) rfl rfl rfl ?_
            refine wl_nil ?_
            refine ce_then ?_
            refine cw_ret ?_
            refine ce_results (v := .bool false) (res1 rfl (rv_t rfl)) (fun w' hw => ?_)
            exfalso
            exact c37 hif2.2.2.1
      ·
        refine wl_go rfl rfl ?_
        refine wl_v (ov_not rfl) rfl rfl rfl ?_
        refine wl_v (ov_pick_f rfl rfl) rfl rfl rfl ?_
        refine wl_nil ?_
        refine ce_then ?_
        refine cw_true rfl ?_
        refine cw_seq ?_
        refine cw_region ?_
        refine wl_v (ov_move rfl) rfl rfl rfl ?_
        refine wl_v (ov_move rfl) rfl rfl rfl ?_
        refine wl_r (or_call (fv := []) (vs := [.slice A2_10 (ys_10.length) (c2_10)]) (cs := []) en11 rfl rfl (call_v (fun w hw => FirstFailingS_c w A2_10 ys_10.length c2_10 ys_10 ((holds_row (List.Mem.head _)) w hw) rfl h_10.1 (by first | assumption | omega | (simp; omega))))) rfl rfl (kt0 rfl ?_)
        refine wl_if (ov_eql rfl rfl) rfl rfl rfl (fun c25 => ?_) (fun c25 => ?_)
        ·
          refine wl_v (ov_assign rfl) rfl rfl rfl ?_
          refine wl_nil ?_
          refine ce_then ?_
          refine cw_ret ?_
          refine ce_then_ret ?_
          refine ce_results (v := .bool true) (res1 rfl (rv_t rfl)) (fun w' hw => ?_)
          exact ⟨rfl, (Keep.nil.ss hw).to_new⟩
        ·
          exact absurd rfl c25
end Go.Proofs.Ytlgkooeflgmcaaa.LFnFirstFailing
