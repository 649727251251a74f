/- Walks of functions of the given program: each returns what its Lean function says and leaves the memory that was there as it was. Conditions: those of each theorem. -/
import Derived.Test.YtbdekdelieighabSz
import Derived.Test.YtbdekdelieighabProg
import Derived.Test.YtbdekdelieighabPl
import Derived.Test.YtbdekdelieighabPo
import Derived.Test.YtbdekdelieighabPd
import Derived.Test.YtbdekdelieighabPe
import Derived.Test.YtbdekdelieighabPh
import Derived.Test.YtbdekdelieighabPm
import Derived.Test.YtbdekdelieighabPc
import Derived.Test.YtbdekdelieighabSo
import Derived.Test.YtbdekdelieighabSh
import Derived.Test.YtbdekdelieighabT
import Derived.Test.YtbdekdelieighabW2
import Derived.Test.YtbdekdelieighabW16
import Derived.KernelRfl
namespace Go.Proofs.Ytbdekdelieighab.LFnExactComposeDegrees
open Go.Sx Go.RowKit Go.Proofs.Ytbdekdelieighab.T Go.Proofs.Ytbdekdelieighab.W2 Go.Proofs.Ytbdekdelieighab.W16
open Go.Plain
set_option linter.unusedVariables false
set_option maxRecDepth 100000 in
theorem FnExactComposeDegrees_c (w : World) (A : Option Addr) (n : Nat) (c : Nat) (xs : List (Int)) (A2 : Option Addr) (n2 : Nat) (c2 : Nat) (ys : List (Int)) (A3 : Option Addr) (n3 : Nat) (c3 : Nat) (zs : List (Int)) (hA : At w A (cells fI xs)) (eA : xs.length = n) (lA : n ≤ c) (hA2 : At w A2 (cells fI ys)) (eA2 : ys.length = n2) (lA2 : n2 ≤ c2) (hA3 : At w A3 (cells fI zs)) (eA3 : zs.length = n3) (lA3 : n3 ≤ c3) : Calls Try.prog 3 #[.slice A (n) (c), .slice A2 (n2) (c2), .slice A3 (n3) (c3)] w (Ret fun rv w' => rv = .bool true ∧ New w w' []) := by
  have oA := hA.atB
  subst eA
  have oA2 := hA2.atB
  subst eA2
  have oA3 := hA3.atB
  subst eA3
  have hll := compV_len xs ys zs
  refine fn_enter (args := [.slice A (xs.length) (c), .slice A2 (ys.length) (c2), .slice A3 (zs.length) (c3)]) Try.func3 rfl Try.ntmps3 rfl (SS.start w) ?_
  refine cw_seq ?_
  refine cw_region ?_
  refine wl_v (ov_assign rfl) rfl rfl rfl ?_
  refine wl_nil ?_
  refine ce_then ?_
  refine cw_seq ?_
  refine cw_seq ?_
  refine cw_region ?_
  refine wl_v (ov_move rfl) rfl rfl rfl ?_
  refine wl_v (ov_len (sliceI_spec sI22) rfl) rfl rfl rfl ?_
  refine wl_if (ov_gtr rfl rfl) rfl rfl rfl (fun c21 => ?_) (fun c21 => ?_)
  ·
    refine wl_nil ?_
    refine ce_then ?_
    refine cw_true rfl ?_
    refine cw_seq ?_
    refine cw_region ?_
    refine wl_v (ov_assign rfl) rfl rfl rfl ?_
    refine wl_nil ?_
    refine ce_then ?_
    refine cw_ret ?_
    refine ce_then_ret ?_
    refine ce_results (v := .bool true) (res1 rfl (rv_t rfl)) (fun w' hw => ?_)
    exact ⟨rfl, (Keep.nil.ss hw).to_new⟩
  ·
    refine wl_nil ?_
    refine ce_then ?_
    refine cw_false rfl ?_
    refine cw_skip ?_
    refine ce_then ?_
    refine cw_seq ?_
    refine cw_seq ?_
    refine cw_region ?_
    refine wl_v (ov_move rfl) rfl rfl rfl ?_
    refine wl_v (ov_len (sliceI_spec sI22) rfl) rfl rfl rfl ?_
    refine wl_if (ov_gtr rfl rfl) rfl rfl rfl (fun c24 => ?_) (fun c24 => ?_)
    ·
      refine wl_nil ?_
      refine ce_then ?_
      refine cw_true rfl ?_
      refine cw_seq ?_
      refine cw_region ?_
      refine wl_v (ov_assign rfl) rfl rfl rfl ?_
      refine wl_nil ?_
      refine ce_then ?_
      refine cw_ret ?_
      refine ce_then_ret ?_
      refine ce_results (v := .bool true) (res1 rfl (rv_t rfl)) (fun w' hw => ?_)
      exact ⟨rfl, (Keep.nil.ss hw).to_new⟩
    ·
      refine wl_nil ?_
      refine ce_then ?_
      refine cw_false rfl ?_
      refine cw_skip ?_
      refine ce_then ?_
      refine cw_seq ?_
      refine cw_seq ?_
      refine cw_region ?_
      refine wl_v (ov_move rfl) rfl rfl rfl ?_
      refine wl_v (ov_len (sliceI_spec sI22) rfl) rfl rfl rfl ?_
      refine wl_if (ov_gtr rfl rfl) rfl rfl rfl (fun c27 => ?_) (fun c27 => ?_)
      ·
        refine wl_nil ?_
        refine ce_then ?_
        refine cw_true rfl ?_
        refine cw_seq ?_
        refine cw_region ?_
        refine wl_v (ov_assign rfl) rfl rfl rfl ?_
        refine wl_nil ?_
        refine ce_then ?_
        refine cw_ret ?_
        refine ce_then_ret ?_
        refine ce_results (v := .bool true) (res1 rfl (rv_t rfl)) (fun w' hw => ?_)
        exact ⟨rfl, (Keep.nil.ss hw).to_new⟩
      ·
        refine wl_nil ?_
        refine ce_then ?_
        refine cw_false rfl ?_
        refine cw_skip ?_
        refine ce_then ?_
        refine cw_seq ?_
        refine cw_region ?_
        refine wl_v (ov_move rfl) rfl rfl rfl ?_
        refine wl_r (or_call (fv := []) (vs := [.slice A (xs.length) (c)]) (cs := []) en8 rfl rfl (call_x1 (fun w hw => toIntS_c w A xs.length c xs ((holds_old oA) w hw) rfl lA (by first | assumption | omega | (simp; omega))))) rfl rfl (kt1p rfl (fun g_30 h_30 => ?_))
        refine wl_v (ov_move rfl) rfl rfl rfl ?_
        refine wl_r (or_call (fv := []) (vs := [.slice A2 (ys.length) (c2)]) (cs := []) en8 rfl rfl (call_x1 (fun w hw => toIntS_c w A2 ys.length c2 ys ((holds_old oA2) w hw) rfl lA2 (by first | assumption | omega | (simp; omega))))) rfl rfl (kt1p rfl (fun g_32 h_32 => ?_))
        refine wl_v (ov_move rfl) rfl rfl rfl ?_
        refine wl_r (or_call (fv := []) (vs := [.slice A3 (zs.length) (c3)]) (cs := []) en8 rfl rfl (call_x1 (fun w hw => toIntS_c w A3 zs.length c3 zs ((holds_old oA3) w hw) rfl lA3 (by first | assumption | omega | (simp; omega))))) rfl rfl (kt1p rfl (fun g_34 h_34 => ?_))
        refine wl_r (or_call (fv := []) (vs := [.slice (some ⟨g_30, 0, none⟩) (xs.length) (xs.length), .slice (some ⟨g_32, 0, none⟩) (ys.length) (ys.length), .slice (some ⟨g_34, 0, none⟩) (zs.length) (zs.length)]) (cs := []) en7 rfl rfl (call_x3 (fun w hw => ComposeS_c w (some ⟨g_30, 0, none⟩) xs.length xs.length xs (some ⟨g_32, 0, none⟩) ys.length ys.length ys (some ⟨g_34, 0, none⟩) zs.length zs.length zs ((holds_row (List.Mem.tail _ (List.Mem.tail _ (List.Mem.head _)))) w hw) rfl (Nat.le_refl _) ((holds_row (List.Mem.tail _ (List.Mem.head _))) w hw) rfl (Nat.le_refl _) ((holds_row (List.Mem.head _)) w hw) rfl (Nat.le_refl _) (by first | assumption | omega | (simp; omega))))) rfl rfl (kt3p rfl (fun A4_35 c4_35 c5_35 h_35 => ?_))
        refine wl_v (ov_move rfl) rfl rfl rfl ?_
        refine wl_v (ov_extract rfl rfl) rfl rfl rfl ?_
        refine wl_v (ov_extract rfl rfl) rfl rfl rfl ?_
        refine wl_v (ov_assign rfl) rfl rfl rfl ?_
        refine wl_v (ov_assign rfl) rfl rfl rfl ?_
        refine wl_nil ?_
        refine ce_then ?_
        refine cw_seq ?_
        refine cw_region ?_
        refine wl_v (ov_move rfl) rfl rfl rfl ?_
        refine wl_r (or_call (fv := []) (vs := [.slice A (xs.length) (c)]) (cs := []) en8 rfl rfl (call_x1 (fun w hw => toIntS_c w A xs.length c xs ((holds_old oA) w hw) rfl lA (by first | assumption | omega | (simp; omega))))) rfl rfl (kt1p rfl (fun g_39 h_39 => ?_))
        refine wl_v (ov_assign rfl) rfl rfl rfl ?_
        refine wl_nil ?_
        refine ce_then ?_
        refine cw_seq ?_
        refine cw_region ?_
        refine wl_v (ov_move rfl) rfl rfl rfl ?_
        refine wl_r (or_call (fv := []) (vs := [.slice A2 (ys.length) (c2)]) (cs := []) en8 rfl rfl (call_x1 (fun w hw => toIntS_c w A2 ys.length c2 ys ((holds_old oA2) w hw) rfl lA2 (by first | assumption | omega | (simp; omega))))) rfl rfl (kt1p rfl (fun g_41 h_41 => ?_))
        refine wl_v (ov_assign rfl) rfl rfl rfl ?_
        refine wl_nil ?_
        refine ce_then ?_
        refine cw_seq ?_
        refine cw_region ?_
        refine wl_v (ov_move rfl) rfl rfl rfl ?_
        refine wl_r (or_call (fv := []) (vs := [.slice A3 (zs.length) (c3)]) (cs := []) en8 rfl rfl (call_x1 (fun w hw => toIntS_c w A3 zs.length c3 zs ((holds_old oA3) w hw) rfl lA3 (by first | assumption | omega | (simp; omega))))) rfl rfl (kt1p rfl (fun g_43 h_43 => ?_))
        refine wl_v (ov_assign rfl) rfl rfl rfl ?_
        refine wl_nil ?_
        refine ce_then ?_
        refine cw_seq ?_
        refine cw_region ?_
        refine wl_v (ov_move rfl) rfl rfl rfl ?_
        refine wl_v (ov_move rfl) rfl rfl rfl ?_
        refine wl_v (ov_move rfl) rfl rfl rfl ?_
        refine wl_r (or_call (fv := []) (vs := [.slice (some ⟨g_39, 0, none⟩) (xs.length) (xs.length), .slice (some ⟨g_41, 0, none⟩) (ys.length) (ys.length), .slice (some ⟨g_43, 0, none⟩) (zs.length) (zs.length)]) (cs := []) en9 rfl rfl (call_x3 (fun w hw => ComposeI_c w (some ⟨g_39, 0, none⟩) xs.length xs.length xs (some ⟨g_41, 0, none⟩) ys.length ys.length ys (some ⟨g_43, 0, none⟩) zs.length zs.length zs ((holds_row (List.Mem.tail _ (List.Mem.tail _ (List.Mem.head _)))) w hw) rfl (Nat.le_refl _) ((holds_row (List.Mem.tail _ (List.Mem.head _))) w hw) rfl (Nat.le_refl _) ((holds_row (List.Mem.head _)) w hw) rfl (Nat.le_refl _) (by first | assumption | omega | (simp; omega))))) rfl rfl (kt3p rfl (fun A4_48 c4_48 c5_48 h_48 => ?_))
        refine wl_v (ov_move rfl) rfl rfl rfl ?_
        refine wl_v (ov_extract rfl rfl) rfl rfl rfl ?_
        refine wl_v (ov_extract rfl rfl) rfl rfl rfl ?_
        refine wl_v (ov_assign rfl) rfl rfl rfl ?_
        refine wl_v (ov_assign rfl) rfl rfl rfl ?_
        refine wl_nil ?_
        refine ce_then ?_
        refine cw_seq ?_
        refine cw_seq ?_
        refine cw_region ?_
        refine wl_v (ov_move rfl) rfl rfl rfl ?_
        refine wl_v (ov_move rfl) rfl rfl rfl ?_
        refine wl_r (or_call (fv := []) (vs := [.slice A4_48 ((compV xs ys zs).1.length) (c4_48), .slice A4_35 ((compV xs ys zs).1.length) (c4_35)]) (cs := []) en10 rfl rfl (call_v (fun w hw => eqIntS_c w A4_48 ((compV xs ys zs).1.length) c4_48 ((compV xs ys zs).1) A4_35 ((compV xs ys zs).1.length) c4_35 ((compV xs ys zs).1) ((holds_row (List.Mem.head _)) w hw) rfl h_48 ((holds_row (List.Mem.tail _ (List.Mem.tail _ (List.Mem.tail _ (List.Mem.tail _ (List.Mem.head _)))))) w hw) rfl h_35 (by first | assumption | omega | (simp; omega))))) rfl rfl (kt_if rfl (fun c53 => ?_) (fun c53 => ?_))
        ·
          refine wl_v (ov_not rfl) rfl rfl rfl ?_
          refine wl_v (ov_move rfl) rfl rfl rfl ?_
          refine wl_go rfl rfl ?_
          refine wl_v (ov_move rfl) rfl rfl rfl ?_
          refine wl_go rfl rfl ?_
          refine wl_v (ov_move rfl) rfl rfl rfl ?_
          refine wl_go rfl rfl ?_
          refine wl_if (OpV.dec (ov_neqb uI4 rfl rfl)) rfl rfl rfl (fun c58 => ?_) (fun c58 => ?_)
          ·
            first | (exfalso; omega) | exact absurd rfl c58 | exact absurd (by simp) c58 | (exfalso; simp at c58; omega) | exact absurd ⟨rfl, rfl⟩ c58 | (simp at c58)
          ·
            refine wl_v (ov_pick_f rfl rfl) rfl rfl rfl ?_
            refine wl_nil ?_
            refine ce_then ?_
            refine cw_false rfl ?_
            refine cw_skip ?_
            refine ce_then ?_
            refine cw_seq ?_
            refine cw_seq ?_
            refine cw_region ?_
            refine wl_v (ov_move rfl) rfl rfl rfl ?_
            refine wl_v (ov_move rfl) rfl rfl rfl ?_
            refine wl_r (or_call (fv := []) (vs := [.slice A (xs.length) (c)]) (cs := []) en8 rfl rfl (call_x1 (fun w hw => toIntS_c w A xs.length c xs ((holds_old oA) w hw) rfl lA (by first | assumption | omega | (simp; omega))))) rfl rfl (kt1p rfl (fun g_62 h_62 => ?_))
            refine wl_r (or_call (fv := []) (vs := [.slice (some ⟨g_39, 0, none⟩) (xs.length) (xs.length), .slice (some ⟨g_62, 0, none⟩) (xs.length) (xs.length)]) (cs := []) en10 rfl rfl (call_v (fun w hw => eqIntS_c w (some ⟨g_39, 0, none⟩) xs.length xs.length xs (some ⟨g_62, 0, none⟩) xs.length xs.length xs ((holds_row (List.Mem.tail _ (List.Mem.tail _ (List.Mem.tail _ (List.Mem.tail _ (List.Mem.head _)))))) w hw) rfl (Nat.le_refl _) ((holds_row (List.Mem.head _)) w hw) rfl (Nat.le_refl _) (by first | assumption | omega | (simp; omega))))) rfl rfl (kt_if rfl (fun c63 => ?_) (fun c63 => ?_))
            ·
              refine wl_v (ov_not rfl) rfl rfl rfl ?_
              refine wl_nil ?_
              refine ce_then ?_
              refine cw_false rfl ?_
              refine cw_skip ?_
              refine ce_then ?_
              refine cw_seq ?_
              refine cw_seq ?_
              refine cw_region ?_
              refine wl_v (ov_move rfl) rfl rfl rfl ?_
              refine wl_v (ov_move rfl) rfl rfl rfl ?_
              refine wl_r (or_call (fv := []) (vs := [.slice A2 (ys.length) (c2)]) (cs := []) en8 rfl rfl (call_x1 (fun w hw => toIntS_c w A2 ys.length c2 ys ((holds_old oA2) w hw) rfl lA2 (by first | assumption | omega | (simp; omega))))) rfl rfl (kt1p rfl (fun g_67 h_67 => ?_))
              refine wl_r (or_call (fv := []) (vs := [.slice (some ⟨g_41, 0, none⟩) (ys.length) (ys.length), .slice (some ⟨g_67, 0, none⟩) (ys.length) (ys.length)]) (cs := []) en10 rfl rfl (call_v (fun w hw => eqIntS_c w (some ⟨g_41, 0, none⟩) ys.length ys.length ys (some ⟨g_67, 0, none⟩) ys.length ys.length ys ((holds_row (List.Mem.tail _ (List.Mem.tail _ (List.Mem.tail _ (List.Mem.tail _ (List.Mem.head _)))))) w hw) rfl (Nat.le_refl _) ((holds_row (List.Mem.head _)) w hw) rfl (Nat.le_refl _) (by first | assumption | omega | (simp; omega))))) rfl rfl (kt_if rfl (fun c68 => ?_) (fun c68 => ?_))
              ·
                refine wl_v (ov_not rfl) rfl rfl rfl ?_
                refine wl_nil ?_
                refine ce_then ?_
                refine cw_false rfl ?_
                refine cw_skip ?_
                refine ce_then ?_
                refine cw_seq ?_
                refine cw_seq ?_
                refine cw_region ?_
                refine wl_v (ov_move rfl) rfl rfl rfl ?_
                refine wl_v (ov_move rfl) rfl rfl rfl ?_
                refine wl_r (or_call (fv := []) (vs := [.slice A3 (zs.length) (c3)]) (cs := []) en8 rfl rfl (call_x1 (fun w hw => toIntS_c w A3 zs.length c3 zs ((holds_old oA3) w hw) rfl lA3 (by first | assumption | omega | (simp; omega))))) rfl rfl (kt1p rfl (fun g_72 h_72 => ?_))
                refine wl_r (or_call (fv := []) (vs := [.slice (some ⟨g_43, 0, none⟩) (zs.length) (zs.length), .slice (some ⟨g_72, 0, none⟩) (zs.length) (zs.length)]) (cs := []) en10 rfl rfl (call_v (fun w hw => eqIntS_c w (some ⟨g_43, 0, none⟩) zs.length zs.length zs (some ⟨g_72, 0, none⟩) zs.length zs.length zs ((holds_row (List.Mem.tail _ (List.Mem.tail _ (List.Mem.tail _ (List.Mem.tail _ (List.Mem.head _)))))) w hw) rfl (Nat.le_refl _) ((holds_row (List.Mem.head _)) w hw) rfl (Nat.le_refl _) (by first | assumption | omega | (simp; omega))))) rfl rfl (kt_if rfl (fun c73 => ?_) (fun c73 => ?_))
                ·
                  refine wl_v (ov_not rfl) rfl rfl rfl ?_
                  refine wl_nil ?_
                  refine ce_then ?_
                  refine cw_false rfl ?_
                  refine cw_skip ?_
                  refine ce_then ?_
                  refine cw_seq ?_
                  refine cw_region ?_
                  refine wl_v (ov_assign rfl) rfl rfl rfl ?_
                  refine wl_nil ?_
                  refine ce_then ?_
                  refine cw_seq ?_
                  refine cw_region ?_
                  refine wl_v (ov_move rfl) rfl rfl rfl ?_
                  refine wl_v (ov_move rfl) rfl rfl rfl ?_
                  refine wl_r (or_call (fv := []) (vs := [.slice (some ⟨g_39, 0, none⟩) (xs.length) (xs.length), .int .i64 (1)]) (cs := []) en11 rfl rfl (call_m (.tail (.tail (.tail (.tail (.tail (.tail .head)))))) (fun w hw => markIntS_c w _ _ _ (some ⟨g_39, 0, none⟩) xs.length xs.length xs.length xs 1 rfl (Nat.le_refl _) (by first | assumption | omega | (simp; omega)) (by first | assumption | omega | (simp; omega)) hw))) rfl rfl (kt0 rfl ?_)
                  refine wl_v (ov_assign rfl) rfl rfl rfl ?_
                  refine wl_nil ?_
                  refine ce_then ?_
                  refine cw_seq ?_
                  refine cw_region ?_
                  refine wl_v (ov_move rfl) rfl rfl rfl ?_
                  refine wl_v (ov_move rfl) rfl rfl rfl ?_
                  refine wl_r (or_call (fv := []) (vs := [.slice (some ⟨g_41, 0, none⟩) (ys.length) (ys.length), .int .i64 (1 + xs.length)]) (cs := []) en11 rfl rfl (call_m (.tail (.tail (.tail (.tail (.tail (.tail .head)))))) (fun w hw => markIntS_c w _ _ _ (some ⟨g_41, 0, none⟩) ys.length ys.length ys.length ys (1 + xs.length) rfl (Nat.le_refl _) (by first | assumption | omega | (simp; omega)) (by first | assumption | omega | (simp; omega)) hw))) rfl rfl (kt0 rfl ?_)
                  refine wl_v (ov_assign rfl) rfl rfl rfl ?_
                  refine wl_nil ?_
                  refine ce_then ?_
                  refine cw_seq ?_
                  refine cw_region ?_
                  refine wl_v (ov_move rfl) rfl rfl rfl ?_
                  refine wl_v (ov_move rfl) rfl rfl rfl ?_
                  refine wl_r (or_call (fv := []) (vs := [.slice (some ⟨g_43, 0, none⟩) (zs.length) (zs.length), .int .i64 ((1 + xs.length) + ys.length)]) (cs := []) en11 rfl rfl (call_m (.tail (.tail (.tail (.tail (.tail (.tail .head)))))) (fun w hw => markIntS_c w _ _ _ (some ⟨g_43, 0, none⟩) zs.length zs.length zs.length zs ((1 + xs.length) + ys.length) rfl (Nat.le_refl _) (by first | assumption | omega | (simp; omega)) (by first | assumption | omega | (simp; omega)) hw))) rfl rfl (kt0 rfl ?_)
                  refine wl_v (ov_assign rfl) rfl rfl rfl ?_
                  refine wl_nil ?_
                  refine ce_then ?_
                  refine cw_seq ?_
                  refine cw_seq ?_
                  refine cw_region ?_
                  refine wl_v (ov_move rfl) rfl rfl rfl ?_
                  refine wl_if (ov_lss rfl rfl) rfl rfl rfl (fun c85 => ?_) (fun c85 => ?_)
                  ·
                    first | (exfalso; omega) | exact absurd rfl c85 | exact absurd (by simp) c85 | (exfalso; simp at c85; omega) | exact absurd ⟨rfl, rfl⟩ c85 | (simp at c85)
                  ·
                    refine wl_v (ov_move rfl) rfl rfl rfl ?_
                    refine wl_go rfl rfl ?_
                    refine wl_v (ov_move rfl) rfl rfl rfl ?_
                    refine wl_go rfl rfl ?_
                    refine wl_v (ov_move rfl) rfl rfl rfl ?_
                    refine wl_go rfl rfl ?_
                    refine wl_r (or_call (fv := []) (vs := [.slice A4_48 ((compV xs ys zs).1.length) (c4_48), .slice A4_35 ((compV xs ys zs).1.length) (c4_35)]) (cs := []) en10 rfl rfl (call_v (fun w hw => eqIntS_c w A4_48 ((compV xs ys zs).1.length) c4_48 ((compV xs ys zs).1) A4_35 ((compV xs ys zs).1.length) c4_35 ((compV xs ys zs).1) ((holds_row (List.Mem.tail _ (List.Mem.tail _ (List.Mem.tail _ (List.Mem.tail _ (List.Mem.tail _ (List.Mem.tail _ (List.Mem.head _)))))))) w hw) rfl h_48 ((holds_row (List.Mem.tail _ (List.Mem.tail _ (List.Mem.tail _ (List.Mem.tail _ (List.Mem.tail _ (List.Mem.tail _ (List.Mem.tail _ (List.Mem.head _))))))))) w hw) rfl h_35 (by first | assumption | omega | (simp; omega))))) rfl rfl (kt_if rfl (fun c89 => ?_) (fun c89 => ?_))
                    ·
                      refine wl_go rfl rfl ?_
                      refine wl_v (ov_not rfl) rfl rfl rfl ?_
                      refine wl_v (ov_pick_f rfl rfl) rfl rfl rfl ?_
                      refine wl_v (ov_move rfl) rfl rfl rfl ?_
                      refine wl_go rfl rfl ?_
                      refine wl_v (ov_move rfl) rfl rfl rfl ?_
                      refine wl_go rfl rfl ?_
                      refine wl_v (ov_move rfl) rfl rfl rfl ?_
                      refine wl_go rfl rfl ?_
                      refine wl_if (OpV.dec (ov_neqb uI4 rfl rfl)) rfl rfl rfl (fun c95 => ?_) (fun c95 => ?_)
                      ·
                        first | (exfalso; omega) | exact absurd rfl c95 | exact absurd (by simp) c95 | (exfalso; simp at c95; omega) | exact absurd ⟨rfl, rfl⟩ c95 | (simp at c95)
                      ·
                        refine wl_v (ov_pick_f rfl rfl) rfl rfl rfl ?_
                        refine wl_nil ?_
                        refine ce_then ?_
                        refine cw_false rfl ?_
                        refine cw_skip ?_
                        refine ce_then ?_
                        refine cw_seq ?_
                        refine cw_region ?_
                        refine wl_v (ov_assign rfl) rfl rfl rfl ?_
                        refine wl_nil ?_
                        refine ce_then ?_
                        refine cw_seq ?_
                        refine cw_region ?_
                        refine wl_v (ov_move rfl) rfl rfl rfl ?_
                        refine wl_v (ov_move rfl) rfl rfl rfl ?_
                        refine wl_r (or_call (fv := []) (vs := [.slice A4_48 ((compV xs ys zs).1.length) (c4_48), .int .i64 (1)]) (cs := []) en11 rfl rfl (call_m (.tail (.tail (.tail (.tail (.tail (.tail .head)))))) (fun w hw => markIntS_c w _ _ _ A4_48 ((compV xs ys zs).1.length) c5_48 c4_48 ((compV xs ys zs).1) 1 rfl h_48 (by first | assumption | omega | (simp; omega)) (by first | assumption | omega | (simp; omega)) hw))) rfl rfl (kt0 rfl ?_)
                        refine wl_v (ov_assign rfl) rfl rfl rfl ?_
                        refine wl_nil ?_
                        refine ce_then ?_
                        refine cw_seq ?_
                        refine cw_region ?_
                        refine wl_v (ov_assign rfl) rfl rfl rfl ?_
                        refine wl_nil ?_
                        refine ce_then ?_
                        refine cw_seq ?_
                        refine cw_region ?_
                        refine wl_v (ov_move rfl) rfl rfl rfl ?_
                        refine wl_v (ov_move rfl) rfl rfl rfl ?_
                        refine wl_r (or_call (fv := []) (vs := [.slice A4_48 ((compV xs ys zs).1.length) (c4_48), .int .i64 (1)]) (cs := []) en12 rfl rfl (call_v (fun w hw => heldIntS_c w A4_48 ((compV xs ys zs).1.length) c4_48 (marks 1 ((compV xs ys zs).1.length)) 1 ((holds_row (List.Mem.head _)) w hw) (marks_length _ _) h_48 (by rw [marks_length]; omega) (by first | assumption | omega | (simp; omega))))) rfl rfl (kt0 rfl ?_)
                        refine wl_v (ov_assign rfl) rfl rfl rfl ?_
                        refine wl_nil ?_
                        refine ce_then ?_
                        refine cw_seq ?_
                        refine cw_seq ?_
                        refine cw_region ?_
                        refine wl_v (ov_move rfl) rfl rfl rfl ?_
                        refine wl_if (ov_lss rfl rfl) rfl rfl rfl (fun c104 => ?_) (fun c104 => ?_)
                        ·
                          first | (exfalso; omega) | exact absurd rfl c104 | exact absurd (by simp) c104 | (exfalso; simp at c104; omega) | exact absurd ⟨rfl, rfl⟩ c104 | (simp at c104)
                        ·
                          refine wl_nil ?_
                          refine ce_then ?_
                          refine cw_false rfl ?_
                          refine cw_skip ?_
                          refine ce_then ?_
                          refine cw_seq ?_
                          refine cw_seq ?_
                          refine cw_region ?_
                          refine wl_v (ov_move rfl) rfl rfl rfl ?_
                          refine wl_v (ov_move rfl) rfl rfl rfl ?_
                          refine wl_if (ov_neq rfl rfl) rfl rfl rfl (fun c107 => ?_) (fun c107 => ?_)
                          ·
                            first | (exfalso; omega) | exact absurd rfl c107 | exact absurd (by simp) c107 | (exfalso; simp at c107; omega) | exact absurd ⟨rfl, rfl⟩ c107 | (simp at c107)
                          ·
                            refine wl_nil ?_
                            refine ce_then ?_
                            refine cw_false rfl ?_
                            refine cw_skip ?_
                            refine ce_then ?_
                            refine cw_seq ?_
                            refine cw_region ?_
                            refine wl_v (ov_move rfl) rfl rfl rfl ?_
                            refine wl_r (or_call (fv := []) (vs := [.slice A (xs.length) (c)]) (cs := []) en8 rfl rfl (call_x1 (fun w hw => toIntS_c w A xs.length c xs ((holds_old oA) w hw) rfl lA (by first | assumption | omega | (simp; omega))))) rfl rfl (kt1p rfl (fun g_110 h_110 => ?_))
                            refine wl_v (ov_move rfl) rfl rfl rfl ?_
                            refine wl_r (or_call (fv := []) (vs := [.slice A2 (ys.length) (c2)]) (cs := []) en8 rfl rfl (call_x1 (fun w hw => toIntS_c w A2 ys.length c2 ys ((holds_old oA2) w hw) rfl lA2 (by first | assumption | omega | (simp; omega))))) rfl rfl (kt1p rfl (fun g_112 h_112 => ?_))
                            refine wl_v (ov_move rfl) rfl rfl rfl ?_
                            refine wl_r (or_call (fv := []) (vs := [.slice A3 (zs.length) (c3)]) (cs := []) en8 rfl rfl (call_x1 (fun w hw => toIntS_c w A3 zs.length c3 zs ((holds_old oA3) w hw) rfl lA3 (by first | assumption | omega | (simp; omega))))) rfl rfl (kt1p rfl (fun g_114 h_114 => ?_))
                            refine wl_r (or_call (fv := []) (vs := [.slice (some ⟨g_110, 0, none⟩) (xs.length) (xs.length), .slice (some ⟨g_112, 0, none⟩) (ys.length) (ys.length), .slice (some ⟨g_114, 0, none⟩) (zs.length) (zs.length)]) (cs := []) en9 rfl rfl (call_x3 (fun w hw => ComposeI_c w (some ⟨g_110, 0, none⟩) xs.length xs.length xs (some ⟨g_112, 0, none⟩) ys.length ys.length ys (some ⟨g_114, 0, none⟩) zs.length zs.length zs ((holds_row (List.Mem.tail _ (List.Mem.tail _ (List.Mem.head _)))) w hw) rfl (Nat.le_refl _) ((holds_row (List.Mem.tail _ (List.Mem.head _))) w hw) rfl (Nat.le_refl _) ((holds_row (List.Mem.head _)) w hw) rfl (Nat.le_refl _) (by first | assumption | omega | (simp; omega))))) rfl rfl (kt3p rfl (fun A4_115 c4_115 c5_115 h_115 => ?_))
                            refine wl_v (ov_move rfl) rfl rfl rfl ?_
                            refine wl_v (ov_extract rfl rfl) rfl rfl rfl ?_
                            refine wl_v (ov_extract rfl rfl) rfl rfl rfl ?_
                            refine wl_v (ov_assign rfl) rfl rfl rfl ?_
                            refine wl_v (ov_assign rfl) rfl rfl rfl ?_
                            refine wl_nil ?_
                            refine ce_then ?_
                            refine cw_seq ?_
                            refine cw_seq ?_
                            refine cw_region ?_
                            refine wl_v (ov_move rfl) rfl rfl rfl ?_
                            refine wl_v (ov_move rfl) rfl rfl rfl ?_
                            refine wl_r (or_call (fv := []) (vs := [.slice A4_115 ((compV xs ys zs).1.length) (c4_115), .slice A4_35 ((compV xs ys zs).1.length) (c4_35)]) (cs := []) en10 rfl rfl (call_v (fun w hw => eqIntS_c w A4_115 ((compV xs ys zs).1.length) c4_115 ((compV xs ys zs).1) A4_35 ((compV xs ys zs).1.length) c4_35 ((compV xs ys zs).1) ((holds_row (List.Mem.head _)) w hw) rfl h_115 ((holds_row (List.Mem.tail _ (List.Mem.tail _ (List.Mem.tail _ (List.Mem.tail _ (List.Mem.tail _ (List.Mem.tail _ (List.Mem.tail _ (List.Mem.tail _ (List.Mem.tail _ (List.Mem.tail _ (List.Mem.tail _ (List.Mem.head _))))))))))))) w hw) rfl h_35 (by first | assumption | omega | (simp; omega))))) rfl rfl (kt_if rfl (fun c120 => ?_) (fun c120 => ?_))
                            ·
                              refine wl_v (ov_not rfl) rfl rfl rfl ?_
                              refine wl_v (ov_move rfl) rfl rfl rfl ?_
                              refine wl_go rfl rfl ?_
                              refine wl_v (ov_move rfl) rfl rfl rfl ?_
                              refine wl_go rfl rfl ?_
                              refine wl_v (ov_move rfl) rfl rfl rfl ?_
                              refine wl_go rfl rfl ?_
                              refine wl_if (OpV.dec (ov_neqb uI4 rfl rfl)) rfl rfl rfl (fun c125 => ?_) (fun c125 => ?_)
                              ·
                                first | (exfalso; omega) | exact absurd rfl c125 | exact absurd (by simp) c125 | (exfalso; simp at c125; omega) | exact absurd ⟨rfl, rfl⟩ c125 | (simp at c125)
                              ·
                                refine wl_v (ov_pick_f rfl rfl) rfl rfl rfl ?_
                                refine wl_nil ?_
                                refine ce_then ?_
                                refine cw_false rfl ?_
                                refine cw_skip ?_
                                refine ce_then ?_
                                refine cw_seq ?_
                                refine cw_region ?_
                                refine wl_v (ov_assign rfl) rfl rfl rfl ?_
                                refine wl_nil ?_
                                refine ce_then ?_
                                refine cw_seq ?_
                                refine cw_region ?_
                                refine wl_v (ov_move rfl) rfl rfl rfl ?_
                                refine wl_v (ov_move rfl) rfl rfl rfl ?_
                                refine wl_r (or_call (fv := []) (vs := [.slice A4_48 ((compV xs ys zs).1.length) (c4_48), .int .i64 (1)]) (cs := []) en12 rfl rfl (call_v (fun w hw => heldIntS_c w A4_48 ((compV xs ys zs).1.length) c4_48 (marks 1 ((compV xs ys zs).1.length)) 1 ((holds_row (List.Mem.tail _ (List.Mem.tail _ (List.Mem.tail _ (List.Mem.tail _ (List.Mem.head _)))))) w hw) (marks_length _ _) h_48 (by rw [marks_length]; omega) (by first | assumption | omega | (simp; omega))))) rfl rfl (kt0 rfl ?_)
                                refine wl_v (ov_assign rfl) rfl rfl rfl ?_
                                refine wl_nil ?_
                                refine ce_then ?_
                                refine cw_seq ?_
                                refine cw_seq ?_
                                refine cw_region ?_
                                refine wl_v (ov_move rfl) rfl rfl rfl ?_
                                refine wl_if (ov_lss rfl rfl) rfl rfl rfl (fun c131 => ?_) (fun c131 => ?_)
                                ·
                                  first | (exfalso; omega) | exact absurd rfl c131 | exact absurd (by simp) c131 | (exfalso; simp at c131; omega) | exact absurd ⟨rfl, rfl⟩ c131 | (simp at c131)
                                ·
                                  refine wl_nil ?_
                                  refine ce_then ?_
                                  refine cw_false rfl ?_
                                  refine cw_skip ?_
                                  refine ce_then ?_
                                  refine cw_seq ?_
                                  refine cw_seq ?_
                                  refine cw_region ?_
                                  refine wl_v (ov_move rfl) rfl rfl rfl ?_
                                  refine wl_v (ov_move rfl) rfl rfl rfl ?_
                                  refine wl_if (ov_neq rfl rfl) rfl rfl rfl (fun c134 => ?_) (fun c134 => ?_)
                                  ·
                                    first | (exfalso; omega) | exact absurd rfl c134 | exact absurd (by simp) c134 | (exfalso; simp at c134; omega) | exact absurd ⟨rfl, rfl⟩ c134 | (simp at c134)
                                  ·
                                    refine wl_nil ?_
                                    refine ce_then ?_
                                    refine cw_false rfl ?_
                                    refine cw_skip ?_
                                    refine ce_then ?_
                                    refine cw_seq ?_
                                    refine cw_region ?_
                                    refine wl_v (ov_assign rfl) rfl rfl rfl ?_
                                    refine wl_nil ?_
                                    refine ce_then ?_
                                    refine cw_ret ?_
                                    refine ce_results (v := .bool true) (res1 rfl (rv_t rfl)) (fun w' hw => ?_)
                                    exact ⟨rfl, (Keep.nil.ss hw).to_new⟩
                            ·
                              first | (exfalso; omega) | exact absurd rfl c120 | exact absurd (by simp) c120 | (exfalso; simp at c120; omega) | exact absurd ⟨rfl, rfl⟩ c120 | (simp at c120)
                    ·
                      first | (exfalso; omega) | exact absurd rfl c89 | exact absurd (by simp) c89 | (exfalso; simp at c89; omega) | exact absurd ⟨rfl, rfl⟩ c89 | (simp at c89)
                ·
                  first | (exfalso; omega) | exact absurd rfl c73 | exact absurd (by simp) c73 | (exfalso; simp at c73; omega) | exact absurd ⟨rfl, rfl⟩ c73 | (simp at c73)
              ·
                first | (exfalso; omega) | exact absurd rfl c68 | exact absurd (by simp) c68 | (exfalso; simp at c68; omega) | exact absurd ⟨rfl, rfl⟩ c68 | (simp at c68)
            ·
              first | (exfalso; omega) | exact absurd rfl c63 | exact absurd (by simp) c63 | (exfalso; simp at c63; omega) | exact absurd ⟨rfl, rfl⟩ c63 | (simp at c63)
        ·
          first | (exfalso; omega) | exact absurd rfl c53 | exact absurd (by simp) c53 | (exfalso; simp at c53; omega) | exact absurd ⟨rfl, rfl⟩ c53 | (simp at c53)
end Go.Proofs.Ytbdekdelieighab.LFnExactComposeDegrees
