/- Walks of functions of the given program: each returns what its Lean function says and leaves the memory that was there as it was. Conditions: those of each theorem. -/
import Derived.Test.YthllnilddbdmaaaDoorSm
import Derived.Test.YthllnilddbdmaaaDoorProg
import Derived.Test.YthllnilddbdmaaaDoorPl
import Derived.Test.YthllnilddbdmaaaDoorPo
import Derived.Test.YthllnilddbdmaaaDoorPd
import Derived.Test.YthllnilddbdmaaaDoorPe
import Derived.Test.YthllnilddbdmaaaDoorPh
import Derived.Test.YthllnilddbdmaaaDoorPm
import Derived.Test.YthllnilddbdmaaaDoorPc
import Derived.Test.YthllnilddbdmaaaDoorPs
import Derived.Test.YthllnilddbdmaaaDoorPt
import Derived.Test.YthllnilddbdmaaaDoorPu
import Derived.Test.YthllnilddbdmaaaDoorPv
import Derived.Test.YthllnilddbdmaaaDoorPw
import Derived.Test.YthllnilddbdmaaaDoorPx
import Derived.Test.YthllnilddbdmaaaDoorPy
import Derived.Test.YthllnilddbdmaaaDoorPz
import Derived.Test.YthllnilddbdmaaaDoorPr
import Derived.Test.YthllnilddbdmaaaDoorPa
import Derived.Test.YthllnilddbdmaaaDoorPn
import Derived.Test.YthllnilddbdmaaaDoorPj
import Derived.Test.YthllnilddbdmaaaDoorPq
import Derived.Test.YthllnilddbdmaaaDoorSs
import Derived.Test.YthllnilddbdmaaaDoorPk
import Derived.Test.YthllnilddbdmaaaDoorSb
import Derived.Test.YthllnilddbdmaaaDoorT
import Derived.Test.YthllnilddbdmaaaDoorW2
import Derived.Test.YthllnilddbdmaaaDoorW12
import Derived.Test.YthllnilddbdmaaaDoorW51
import Derived.Test.YthllnilddbdmaaaDoorW53
import Derived.Test.YthllnilddbdmaaaDoorW54
import Derived.KernelRfl
namespace Go.Proofs.YthllnilddbdmaaaDoor.LFnParseDegrees
open Go.Sx Go.RowKit Go.Proofs.YthllnilddbdmaaaDoor.T Go.Proofs.YthllnilddbdmaaaDoor.W2 Go.Proofs.YthllnilddbdmaaaDoor.W12 Go.Proofs.YthllnilddbdmaaaDoor.W51 Go.Proofs.YthllnilddbdmaaaDoor.W53 Go.Proofs.YthllnilddbdmaaaDoor.W54
open Go.Plain
set_option linter.unusedVariables false
set_option maxRecDepth 100000 in
theorem FnParseDegrees_c (w : World) (Ar : Option Addr) (nr : Nat) (cr : Nat) (bs : List (Nat)) (hAr : At w Ar (cells fY bs)) (eAr : bs.length = nr) (lAr : nr ≤ cr) (hb : ∀ x ∈ bs, x < 256) : Calls Tryd.prog 6 #[.slice Ar (nr) (cr)] w (Ret fun rv w' => rv = .bool true ∧ New w w' []) := by
  have oAr := hAr.atB
  subst eAr
  refine fn_enter (args := [.slice Ar (bs.length) (cr)]) Tryd.func6 rfl Tryd.ntmps6 rfl (SS.start w) ?_
  refine cw_seq ?_
  refine cw_region ?_
  refine wl_v (ov_assign rfl) rfl rfl rfl ?_
  refine wl_nil ?_
  refine ce_then ?_
  refine cw_seq ?_
  refine cw_seq ?_
  refine cw_region ?_
  refine wl_v (ov_move rfl) rfl rfl rfl ?_
  refine wl_v (ov_len (sliceI_spec sI38) rfl) rfl rfl rfl ?_
  refine wl_if (ov_gtr rfl rfl) rfl rfl rfl (fun c10 => ?_) (fun c10 => ?_)
  ·
    refine wl_nil ?_
    refine ce_then ?_
    refine cw_true rfl ?_
    refine cw_seq ?_
    refine cw_region ?_
    refine wl_v (ov_assign rfl) rfl rfl rfl ?_
    refine wl_nil ?_
    refine ce_then ?_
    refine cw_ret ?_
    refine ce_then_ret ?_
    refine ce_results (v := .bool true) (res1 rfl (rv_t rfl)) (fun w' hw => ?_)
    exact ⟨rfl, (Keep.nil.ss hw).to_new⟩
  ·
    refine wl_nil ?_
    refine ce_then ?_
    refine cw_false rfl ?_
    refine cw_skip ?_
    refine ce_then ?_
    refine cw_seq ?_
    refine cw_region ?_
    refine wl_v (ov_move rfl) rfl rfl rfl ?_
    refine wl_r (or_call (fv := []) (vs := [.slice Ar (bs.length) (cr)]) (cs := []) en20 rfl rfl (call_x1 (fun w hw => DrawParse_c w Ar bs.length cr bs ((holds_old oAr) w hw) rfl lAr (by first | assumption | omega | (simp; omega))))) rfl rfl (kt1p rfl (fun s_12 h_12 => ?_))
    have hpl := parseV_len s_12
    refine wl_v (ov_assign rfl) rfl rfl rfl ?_
    refine wl_nil ?_
    refine ce_then ?_
    refine cw_seq ?_
    refine cw_region ?_
    refine wl_v (ov_move rfl) rfl rfl rfl ?_
    refine wl_r (or_call (fv := []) (vs := [.string (s_12)]) (cs := []) en18 rfl rfl (call_x3 (fun w hw => ParseDegreesI_c w s_12 (by omega)))) rfl rfl (kt3p rfl (fun A2_15 k2_15 c2_15 h_15 => ?_))
    refine wl_v (ov_move rfl) rfl rfl rfl ?_
    refine wl_v (ov_extract rfl rfl) rfl rfl rfl ?_
    refine wl_v (ov_extract rfl rfl) rfl rfl rfl ?_
    refine wl_v (ov_assign rfl) rfl rfl rfl ?_
    refine wl_v (ov_assign rfl) rfl rfl rfl ?_
    refine wl_nil ?_
    refine ce_then ?_
    refine cw_seq ?_
    refine cw_region ?_
    refine wl_v (ov_move rfl) rfl rfl rfl ?_
    refine wl_r (or_call (fv := []) (vs := [.string (s_12)]) (cs := []) en21 rfl rfl (call_x3 (fun w hw => ParseDegreesS_c w s_12 (by omega)))) rfl rfl (kt3p rfl (fun A2_20 k2_20 c2_20 h_20 => ?_))
    refine wl_v (ov_move rfl) rfl rfl rfl ?_
    refine wl_v (ov_extract rfl rfl) rfl rfl rfl ?_
    refine wl_v (ov_extract rfl rfl) rfl rfl rfl ?_
    refine wl_v (ov_assign rfl) rfl rfl rfl ?_
    refine wl_v (ov_assign rfl) rfl rfl rfl ?_
    refine wl_nil ?_
    refine ce_then ?_
    refine cw_seq ?_
    refine cw_seq ?_
    refine cw_region ?_
    refine wl_v (ov_move rfl) rfl rfl rfl ?_
    refine wl_v (ov_move rfl) rfl rfl rfl ?_
    refine wl_r (or_call (fv := []) (vs := [.slice A2_15 ((parseV s_12).1.length) (k2_15), .slice A2_20 ((parseV s_12).1.length) (k2_20)]) (cs := []) en19 rfl rfl (call_v (fun w hw => equalInts_c w A2_15 ((parseV s_12).1.length) k2_15 ((parseV s_12).1) A2_20 ((parseV s_12).1.length) k2_20 ((parseV s_12).1) ((holds_row (List.Mem.tail _ (List.Mem.head _))) w hw) rfl h_15 ((holds_row (List.Mem.head _)) w hw) rfl h_20 (by omega)))) rfl rfl (kt_if rfl (fun c25 => ?_) (fun c25 => ?_))
    ·
      refine wl_v (ov_not rfl) rfl rfl rfl ?_
      refine wl_v (ov_move rfl) rfl rfl rfl ?_
      refine wl_go rfl rfl ?_
      refine wl_v (ov_move rfl) rfl rfl rfl ?_
      refine wl_go rfl rfl ?_
      refine wl_v (ov_move rfl) rfl rfl rfl ?_
      refine wl_go rfl rfl ?_
      refine wl_if (OpV.dec (ov_neqb uI4 rfl rfl)) rfl rfl rfl (fun c30 => ?_) (fun c30 => ?_)
      ·
        exfalso; simp at c30
      ·
        refine wl_v (ov_pick_f rfl rfl) rfl rfl rfl ?_
        refine wl_v (ov_move rfl) rfl rfl rfl ?_
        refine wl_go rfl rfl ?_
        refine wl_v (ov_move rfl) rfl rfl rfl ?_
        refine wl_go rfl rfl ?_
        refine wl_if (OpV.dec (ov_not rfl)) rfl rfl rfl (fun c34 => ?_) (fun c34 => ?_)
        ·
          refine wl_v (ov_pick_f rfl rfl) rfl rfl rfl ?_
          refine wl_nil ?_
          refine ce_then ?_
          refine cw_true rfl ?_
          refine cw_seq ?_
          refine cw_region ?_
          refine wl_v (ov_move rfl) rfl rfl rfl ?_
          refine wl_v (ov_move rfl) rfl rfl rfl ?_
          refine wl_r (or_call (fv := []) (vs := [.slice A2_15 ((parseV s_12).1.length) (k2_15), .slice A2_20 ((parseV s_12).1.length) (k2_20)]) (cs := []) en19 rfl rfl (call_v (fun w hw => equalInts_c w A2_15 ((parseV s_12).1.length) k2_15 ((parseV s_12).1) A2_20 ((parseV s_12).1.length) k2_20 ((parseV s_12).1) ((holds_row (List.Mem.tail _ (List.Mem.head _))) w hw) rfl h_15 ((holds_row (List.Mem.head _)) w hw) rfl h_20 (by omega)))) rfl rfl (kt_if rfl (fun c38 => ?_) (fun c38 => ?_))
          ·
            refine wl_v (ov_move rfl) rfl rfl rfl ?_
            refine wl_go rfl rfl ?_
            refine wl_v (ov_move rfl) rfl rfl rfl ?_
            refine wl_go rfl rfl ?_
            refine wl_v (ov_move rfl) rfl rfl rfl ?_
            refine wl_go rfl rfl ?_
            refine wl_if (OpV.dec (ov_eqlb uI4 rfl rfl)) rfl rfl rfl (fun c42 => ?_) (fun c42 => ?_)
            ·
              refine wl_v (ov_pick_t rfl rfl) rfl rfl rfl ?_
              refine wl_v (ov_assign rfl) rfl rfl rfl ?_
              refine wl_nil ?_
              refine ce_then ?_
              refine cw_ret ?_
              refine ce_then_ret ?_
              refine ce_results (v := .bool true) (res1 rfl (rv_t rfl)) (fun w' hw => ?_)
              exact ⟨rfl, (Keep.nil.ss hw).to_new⟩
            ·
              exfalso; simp at c42
          ·
            exact absurd rfl c38
        ·
          have hok : (parseV s_12).2 = true := by simpa using c34
          have hvd := (parse_ok hok).1
          have hp1 := (parse_ok hok).2
          refine wl_v (ov_pick_f rfl rfl) rfl rfl rfl ?_
          refine wl_nil ?_
          refine ce_then ?_
          refine cw_false rfl ?_
          refine cw_skip ?_
          refine ce_then ?_
          refine cw_seq ?_
          refine cw_region ?_
          refine wl_v (ov_move rfl) rfl rfl rfl ?_
          refine wl_r (or_call (fv := []) (vs := [.slice A2_15 ((parseV s_12).1.length) (k2_15)]) (cs := []) en14 rfl rfl (call_v (fun w hw => DegreesTextI_c w A2_15 ((parseV s_12).1.length) k2_15 ((parseV s_12).1) ((holds_row (List.Mem.tail _ (List.Mem.head _))) w hw) rfl h_15 (by omega)))) rfl rfl (kt0 rfl ?_)
          refine wl_v (ov_move rfl) rfl rfl rfl ?_
          refine wl_if (ov_eqls rfl rfl) rfl rfl rfl (fun c47 => ?_) (fun c47 => ?_)
          ·
            refine wl_v (ov_move rfl) rfl rfl rfl ?_
            refine wl_go rfl rfl ?_
            refine wl_v (ov_move rfl) rfl rfl rfl ?_
            refine wl_go rfl rfl ?_
            refine wl_r (or_call (fv := []) (vs := [.slice A2_15 ((parseV s_12).1.length) (k2_15)]) (cs := []) en17 rfl rfl (call_v (fun w hw => validI_c w A2_15 ((parseV s_12).1.length) k2_15 ((parseV s_12).1) ((holds_row (List.Mem.tail _ (List.Mem.head _))) w hw) rfl h_15 (by omega)))) rfl rfl (kt_if rfl (fun c50 => ?_) (fun c50 => ?_))
            ·
              refine wl_v (ov_pick_t rfl rfl) rfl rfl rfl ?_
              refine wl_v (ov_assign rfl) rfl rfl rfl ?_
              refine wl_nil ?_
              refine ce_then ?_
              refine cw_ret ?_
              refine ce_results (v := .bool true) (res1 rfl (rv_t rfl)) (fun w' hw => ?_)
              exact ⟨rfl, (Keep.nil.ss hw).to_new⟩
            ·
              refine wl_v (ov_pick_t rfl rfl) rfl rfl rfl ?_
              refine wl_v (ov_assign rfl) rfl rfl rfl ?_
              refine wl_nil ?_
              refine ce_then ?_
              refine cw_ret ?_
              refine ce_results (v := .bool false) (res1 rfl (rv_t rfl)) (fun w' hw => ?_)
              exfalso
              exact c50 (by rw [hp1]; exact hvd)
          ·
            refine wl_v (ov_move rfl) rfl rfl rfl ?_
            refine wl_not rfl rfl rfl rfl rfl rfl ?_
            refine wl_not rfl rfl rfl rfl rfl rfl ?_
            refine wl_v (ov_pick_f rfl rfl) rfl rfl rfl ?_
            refine wl_v (ov_assign rfl) rfl rfl rfl ?_
            refine wl_nil ?_
            refine ce_then ?_
            refine cw_ret ?_
            refine ce_results (v := .bool false) (res1 rfl (rv_t rfl)) (fun w' hw => ?_)
            exfalso
            exact c47 (by rw [hp1, textV, if_pos hvd]; exact back_text hvd)
    ·
      exact absurd rfl c25
end Go.Proofs.YthllnilddbdmaaaDoor.LFnParseDegrees
