/- Walks of functions of the given program: each returns what its Lean function says and leaves the memory that was there as it was. Conditions: those of each theorem. -/
import Derived.Test.YtlmohafmpgpnaaaSy
import Derived.Test.YtlmohafmpgpnaaaProg
import Derived.Test.YtlmohafmpgpnaaaPl
import Derived.Test.YtlmohafmpgpnaaaPo
import Derived.Test.YtlmohafmpgpnaaaPd
import Derived.Test.YtlmohafmpgpnaaaPe
import Derived.Test.YtlmohafmpgpnaaaSo
import Derived.Test.YtlmohafmpgpnaaaSh
import Derived.Test.YtlmohafmpgpnaaaT
import Derived.Test.YtlmohafmpgpnaaaW2
import Derived.Test.YtlmohafmpgpnaaaW10
import Derived.KernelRfl
namespace Go.Proofs.Ytlmohafmpgpnaaa.LFnExactMajorizes
open Go.Sx Go.RowKit Go.Proofs.Ytlmohafmpgpnaaa.T Go.Proofs.Ytlmohafmpgpnaaa.W2 Go.Proofs.Ytlmohafmpgpnaaa.W10
open Go.Plain
set_option linter.unusedVariables false
set_option maxRecDepth 100000 in
theorem FnExactMajorizes_c (w : World) (A : Option Addr) (n : Nat) (c : Nat) (xs : List (Int)) (A2 : Option Addr) (n2 : Nat) (c2 : Nat) (ys : List (Int)) (hA : At w A (cells fI xs)) (eA : xs.length = n) (lA : n ≤ c) (hA2 : At w A2 (cells fI ys)) (eA2 : ys.length = n2) (lA2 : n2 ≤ c2) : Calls Try.prog 3 #[.slice A (n) (c), .slice A2 (n2) (c2)] w (Ret fun rv w' => rv = .bool true ∧ New w w' []) := by
  have oA := hA.atB
  subst eA
  have oA2 := hA2.atB
  subst eA2
  refine fn_enter (args := [.slice A (xs.length) (c), .slice A2 (ys.length) (c2)]) Try.func3 rfl Try.ntmps3 rfl (SS.start w) ?_
  refine cw_seq ?_
  refine cw_region ?_
  refine wl_v (ov_assign rfl) rfl rfl rfl ?_
  refine wl_nil ?_
  refine ce_then ?_
  refine cw_seq ?_
  refine cw_seq ?_
  refine cw_region ?_
  refine wl_v (ov_move rfl) rfl rfl rfl ?_
  refine wl_v (ov_len (sliceI_spec sI22) rfl) rfl rfl rfl ?_
  refine wl_if (ov_gtr rfl rfl) rfl rfl rfl (fun c11 => ?_) (fun c11 => ?_)
  ·
    refine wl_nil ?_
    refine ce_then ?_
    refine cw_true rfl ?_
    refine cw_seq ?_
    refine cw_region ?_
    refine wl_v (ov_assign rfl) rfl rfl rfl ?_
    refine wl_nil ?_
    refine ce_then ?_
    refine cw_ret ?_
    refine ce_then_ret ?_
    refine ce_results (v := .bool true) (res1 rfl (rv_t rfl)) (fun w' hw => ?_)
    exact ⟨rfl, (Keep.nil.ss hw).to_new⟩
  ·
    refine wl_nil ?_
    refine ce_then ?_
    refine cw_false rfl ?_
    refine cw_skip ?_
    refine ce_then ?_
    refine cw_seq ?_
    refine cw_seq ?_
    refine cw_region ?_
    refine wl_v (ov_move rfl) rfl rfl rfl ?_
    refine wl_v (ov_len (sliceI_spec sI22) rfl) rfl rfl rfl ?_
    refine wl_if (ov_gtr rfl rfl) rfl rfl rfl (fun c14 => ?_) (fun c14 => ?_)
    ·
      refine wl_nil ?_
      refine ce_then ?_
      refine cw_true rfl ?_
      refine cw_seq ?_
      refine cw_region ?_
      refine wl_v (ov_assign rfl) rfl rfl rfl ?_
      refine wl_nil ?_
      refine ce_then ?_
      refine cw_ret ?_
      refine ce_then_ret ?_
      refine ce_results (v := .bool true) (res1 rfl (rv_t rfl)) (fun w' hw => ?_)
      exact ⟨rfl, (Keep.nil.ss hw).to_new⟩
    ·
      refine wl_nil ?_
      refine ce_then ?_
      refine cw_false rfl ?_
      refine cw_skip ?_
      refine ce_then ?_
      refine cw_seq ?_
      refine cw_region ?_
      refine wl_v (ov_move rfl) rfl rfl rfl ?_
      refine wl_r (or_call (fv := []) (vs := [.slice A (xs.length) (c)]) (cs := []) en11 rfl rfl (call_x1 (fun w hw => toIntS_c w A xs.length c xs ((holds_old oA) w hw) rfl lA (by first | assumption | omega | (simp; omega))))) rfl rfl (kt1p rfl (fun g_16 h_16 => ?_))
      refine wl_v (ov_move rfl) rfl rfl rfl ?_
      refine wl_r (or_call (fv := []) (vs := [.slice A2 (ys.length) (c2)]) (cs := []) en11 rfl rfl (call_x1 (fun w hw => toIntS_c w A2 ys.length c2 ys ((holds_old oA2) w hw) rfl lA2 (by first | assumption | omega | (simp; omega))))) rfl rfl (kt1p rfl (fun g_18 h_18 => ?_))
      refine wl_r (or_call (fv := []) (vs := [.slice (some ⟨g_16, 0, none⟩) (xs.length) (xs.length), .slice (some ⟨g_18, 0, none⟩) (ys.length) (ys.length)]) (cs := []) en10 rfl rfl (call_v (fun w hw => MajorizesS_c w (some ⟨g_16, 0, none⟩) xs.length xs.length xs (some ⟨g_18, 0, none⟩) ys.length ys.length ys ((holds_row (List.Mem.tail _ (List.Mem.head _))) w hw) rfl (Nat.le_refl _) ((holds_row (List.Mem.head _)) w hw) rfl (Nat.le_refl _) (by first | assumption | omega | (simp; omega))))) rfl rfl (kt_if rfl (fun c19 => ?_) (fun c19 => ?_))
      ·
        refine wl_v (ov_assign rfl) rfl rfl rfl ?_
        refine wl_nil ?_
        refine ce_then ?_
        refine cw_seq ?_
        refine cw_region ?_
        refine wl_v (ov_move rfl) rfl rfl rfl ?_
        refine wl_r (or_call (fv := []) (vs := [.slice A (xs.length) (c)]) (cs := []) en11 rfl rfl (call_x1 (fun w hw => toIntS_c w A xs.length c xs ((holds_old oA) w hw) rfl lA (by first | assumption | omega | (simp; omega))))) rfl rfl (kt1p rfl (fun g_21 h_21 => ?_))
        refine wl_v (ov_assign rfl) rfl rfl rfl ?_
        refine wl_nil ?_
        refine ce_then ?_
        refine cw_seq ?_
        refine cw_region ?_
        refine wl_v (ov_move rfl) rfl rfl rfl ?_
        refine wl_r (or_call (fv := []) (vs := [.slice A2 (ys.length) (c2)]) (cs := []) en11 rfl rfl (call_x1 (fun w hw => toIntS_c w A2 ys.length c2 ys ((holds_old oA2) w hw) rfl lA2 (by first | assumption | omega | (simp; omega))))) rfl rfl (kt1p rfl (fun g_23 h_23 => ?_))
        refine wl_v (ov_assign rfl) rfl rfl rfl ?_
        refine wl_nil ?_
        refine ce_then ?_
        refine cw_seq ?_
        refine cw_region ?_
        refine wl_v (ov_move rfl) rfl rfl rfl ?_
        refine wl_v (ov_move rfl) rfl rfl rfl ?_
        refine wl_r (or_call (fv := []) (vs := [.slice (some ⟨g_21, 0, none⟩) (xs.length) (xs.length), .slice (some ⟨g_23, 0, none⟩) (ys.length) (ys.length)]) (cs := []) en12 rfl rfl (call_v (fun w hw => MajorizesI_c w (some ⟨g_21, 0, none⟩) xs.length xs.length xs (some ⟨g_23, 0, none⟩) ys.length ys.length ys ((holds_row (List.Mem.tail _ (List.Mem.head _))) w hw) rfl (Nat.le_refl _) ((holds_row (List.Mem.head _)) w hw) rfl (Nat.le_refl _) (by first | assumption | omega | (simp; omega))))) rfl rfl (kt_if rfl (fun c26 => ?_) (fun c26 => ?_))
        ·
          refine wl_v (ov_assign rfl) rfl rfl rfl ?_
          refine wl_nil ?_
          refine ce_then ?_
          refine cw_seq ?_
          refine cw_seq ?_
          refine cw_region ?_
          refine wl_v (ov_move rfl) rfl rfl rfl ?_
          refine wl_v (ov_move rfl) rfl rfl rfl ?_
          refine wl_v (ov_neqb uI4 rfl rfl) rfl rfl rfl ?_
          refine wl_nil ?_
          refine ce_then ?_
          refine cw_false rfl ?_
          refine cw_skip ?_
          refine ce_then ?_
          refine cw_seq ?_
          refine cw_seq ?_
          refine cw_region ?_
          refine wl_v (ov_move rfl) rfl rfl rfl ?_
          refine wl_v (ov_move rfl) rfl rfl rfl ?_
          refine wl_r (or_call (fv := []) (vs := [.slice A (xs.length) (c)]) (cs := []) en11 rfl rfl (call_x1 (fun w hw => toIntS_c w A xs.length c xs ((holds_old oA) w hw) rfl lA (by first | assumption | omega | (simp; omega))))) rfl rfl (kt1p rfl (fun g_32 h_32 => ?_))
          refine wl_r (or_call (fv := []) (vs := [.slice (some ⟨g_21, 0, none⟩) (xs.length) (xs.length), .slice (some ⟨g_32, 0, none⟩) (xs.length) (xs.length)]) (cs := []) en13 rfl rfl (call_v (fun w hw => eqIntS_c w (some ⟨g_21, 0, none⟩) xs.length xs.length xs (some ⟨g_32, 0, none⟩) xs.length xs.length xs ((holds_row (List.Mem.tail _ (List.Mem.tail _ (List.Mem.head _)))) w hw) rfl (Nat.le_refl _) ((holds_row (List.Mem.head _)) w hw) rfl (Nat.le_refl _) (by first | assumption | omega | (simp; omega))))) rfl rfl (kt_if rfl (fun c33 => ?_) (fun c33 => ?_))
          ·
            refine wl_v (ov_not rfl) rfl rfl rfl ?_
            refine wl_nil ?_
            refine ce_then ?_
            refine cw_false rfl ?_
            refine cw_skip ?_
            refine ce_then ?_
            refine cw_seq ?_
            refine cw_seq ?_
            refine cw_region ?_
            refine wl_v (ov_move rfl) rfl rfl rfl ?_
            refine wl_v (ov_move rfl) rfl rfl rfl ?_
            refine wl_r (or_call (fv := []) (vs := [.slice A2 (ys.length) (c2)]) (cs := []) en11 rfl rfl (call_x1 (fun w hw => toIntS_c w A2 ys.length c2 ys ((holds_old oA2) w hw) rfl lA2 (by first | assumption | omega | (simp; omega))))) rfl rfl (kt1p rfl (fun g_37 h_37 => ?_))
            refine wl_r (or_call (fv := []) (vs := [.slice (some ⟨g_23, 0, none⟩) (ys.length) (ys.length), .slice (some ⟨g_37, 0, none⟩) (ys.length) (ys.length)]) (cs := []) en13 rfl rfl (call_v (fun w hw => eqIntS_c w (some ⟨g_23, 0, none⟩) ys.length ys.length ys (some ⟨g_37, 0, none⟩) ys.length ys.length ys ((holds_row (List.Mem.tail _ (List.Mem.tail _ (List.Mem.head _)))) w hw) rfl (Nat.le_refl _) ((holds_row (List.Mem.head _)) w hw) rfl (Nat.le_refl _) (by first | assumption | omega | (simp; omega))))) rfl rfl (kt_if rfl (fun c38 => ?_) (fun c38 => ?_))
            ·
              refine wl_v (ov_not rfl) rfl rfl rfl ?_
              refine wl_nil ?_
              refine ce_then ?_
              refine cw_false rfl ?_
              refine cw_skip ?_
              refine ce_then ?_
              refine cw_seq ?_
              refine cw_region ?_
              refine wl_v (ov_assign rfl) rfl rfl rfl ?_
              refine wl_nil ?_
              refine ce_then ?_
              refine cw_ret ?_
              refine ce_results (v := .bool true) (res1 rfl (rv_t rfl)) (fun w' hw => ?_)
              exact ⟨rfl, (Keep.nil.ss hw).to_new⟩
            ·
              first | (exfalso; omega) | exact absurd rfl c38 | exact absurd (by simp) c38 | (exfalso; simp at c38; omega) | exact absurd ⟨rfl, rfl⟩ c38
          ·
            first | (exfalso; omega) | exact absurd rfl c33 | exact absurd (by simp) c33 | (exfalso; simp at c33; omega) | exact absurd ⟨rfl, rfl⟩ c33
        ·
          exact absurd c19 c26
      ·
        refine wl_v (ov_assign rfl) rfl rfl rfl ?_
        refine wl_nil ?_
        refine ce_then ?_
        refine cw_seq ?_
        refine cw_region ?_
        refine wl_v (ov_move rfl) rfl rfl rfl ?_
        refine wl_r (or_call (fv := []) (vs := [.slice A (xs.length) (c)]) (cs := []) en11 rfl rfl (call_x1 (fun w hw => toIntS_c w A xs.length c xs ((holds_old oA) w hw) rfl lA (by first | assumption | omega | (simp; omega))))) rfl rfl (kt1p rfl (fun g_21 h_21 => ?_))
        refine wl_v (ov_assign rfl) rfl rfl rfl ?_
        refine wl_nil ?_
        refine ce_then ?_
        refine cw_seq ?_
        refine cw_region ?_
        refine wl_v (ov_move rfl) rfl rfl rfl ?_
        refine wl_r (or_call (fv := []) (vs := [.slice A2 (ys.length) (c2)]) (cs := []) en11 rfl rfl (call_x1 (fun w hw => toIntS_c w A2 ys.length c2 ys ((holds_old oA2) w hw) rfl lA2 (by first | assumption | omega | (simp; omega))))) rfl rfl (kt1p rfl (fun g_23 h_23 => ?_))
        refine wl_v (ov_assign rfl) rfl rfl rfl ?_
        refine wl_nil ?_
        refine ce_then ?_
        refine cw_seq ?_
        refine cw_region ?_
        refine wl_v (ov_move rfl) rfl rfl rfl ?_
        refine wl_v (ov_move rfl) rfl rfl rfl ?_
        refine wl_r (or_call (fv := []) (vs := [.slice (some ⟨g_21, 0, none⟩) (xs.length) (xs.length), .slice (some ⟨g_23, 0, none⟩) (ys.length) (ys.length)]) (cs := []) en12 rfl rfl (call_v (fun w hw => MajorizesI_c w (some ⟨g_21, 0, none⟩) xs.length xs.length xs (some ⟨g_23, 0, none⟩) ys.length ys.length ys ((holds_row (List.Mem.tail _ (List.Mem.head _))) w hw) rfl (Nat.le_refl _) ((holds_row (List.Mem.head _)) w hw) rfl (Nat.le_refl _) (by first | assumption | omega | (simp; omega))))) rfl rfl (kt_if rfl (fun c26 => ?_) (fun c26 => ?_))
        ·
          exact absurd c26 c19
        ·
          refine wl_v (ov_assign rfl) rfl rfl rfl ?_
          refine wl_nil ?_
          refine ce_then ?_
          refine cw_seq ?_
          refine cw_seq ?_
          refine cw_region ?_
          refine wl_v (ov_move rfl) rfl rfl rfl ?_
          refine wl_v (ov_move rfl) rfl rfl rfl ?_
          refine wl_v (ov_neqb uI4 rfl rfl) rfl rfl rfl ?_
          refine wl_nil ?_
          refine ce_then ?_
          refine cw_false rfl ?_
          refine cw_skip ?_
          refine ce_then ?_
          refine cw_seq ?_
          refine cw_seq ?_
          refine cw_region ?_
          refine wl_v (ov_move rfl) rfl rfl rfl ?_
          refine wl_v (ov_move rfl) rfl rfl rfl ?_
          refine wl_r (or_call (fv := []) (vs := [.slice A (xs.length) (c)]) (cs := []) en11 rfl rfl (call_x1 (fun w hw => toIntS_c w A xs.length c xs ((holds_old oA) w hw) rfl lA (by first | assumption | omega | (simp; omega))))) rfl rfl (kt1p rfl (fun g_32 h_32 => ?_))
          refine wl_r (or_call (fv := []) (vs := [.slice (some ⟨g_21, 0, none⟩) (xs.length) (xs.length), .slice (some ⟨g_32, 0, none⟩) (xs.length) (xs.length)]) (cs := []) en13 rfl rfl (call_v (fun w hw => eqIntS_c w (some ⟨g_21, 0, none⟩) xs.length xs.length xs (some ⟨g_32, 0, none⟩) xs.length xs.length xs ((holds_row (List.Mem.tail _ (List.Mem.tail _ (List.Mem.head _)))) w hw) rfl (Nat.le_refl _) ((holds_row (List.Mem.head _)) w hw) rfl (Nat.le_refl _) (by first | assumption | omega | (simp; omega))))) rfl rfl (kt_if rfl (fun c33 => ?_) (fun c33 => ?_))
          ·
            refine wl_v (ov_not rfl) rfl rfl rfl ?_
            refine wl_nil ?_
            refine ce_then ?_
            refine cw_false rfl ?_
            refine cw_skip ?_
            refine ce_then ?_
            refine cw_seq ?_
            refine cw_seq ?_
            refine cw_region ?_
            refine wl_v (ov_move rfl) rfl rfl rfl ?_
            refine wl_v (ov_move rfl) rfl rfl rfl ?_
            refine wl_r (or_call (fv := []) (vs := [.slice A2 (ys.length) (c2)]) (cs := []) en11 rfl rfl (call_x1 (fun w hw => toIntS_c w A2 ys.length c2 ys ((holds_old oA2) w hw) rfl lA2 (by first | assumption | omega | (simp; omega))))) rfl rfl (kt1p rfl (fun g_37 h_37 => ?_))
            refine wl_r (or_call (fv := []) (vs := [.slice (some ⟨g_23, 0, none⟩) (ys.length) (ys.length), .slice (some ⟨g_37, 0, none⟩) (ys.length) (ys.length)]) (cs := []) en13 rfl rfl (call_v (fun w hw => eqIntS_c w (some ⟨g_23, 0, none⟩) ys.length ys.length ys (some ⟨g_37, 0, none⟩) ys.length ys.length ys ((holds_row (List.Mem.tail _ (List.Mem.tail _ (List.Mem.head _)))) w hw) rfl (Nat.le_refl _) ((holds_row (List.Mem.head _)) w hw) rfl (Nat.le_refl _) (by first | assumption | omega | (simp; omega))))) rfl rfl (kt_if rfl (fun c38 => ?_) (fun c38 => ?_))
            ·
              refine wl_v (ov_not rfl) rfl rfl rfl ?_
              refine wl_nil ?_
              refine ce_then ?_
              refine cw_false rfl ?_
              refine cw_skip ?_
              refine ce_then ?_
              refine cw_seq ?_
              refine cw_region ?_
              refine wl_v (ov_assign rfl) rfl rfl rfl ?_
              refine wl_nil ?_
              refine ce_then ?_
              refine cw_ret ?_
              refine ce_results (v := .bool true) (res1 rfl (rv_t rfl)) (fun w' hw => ?_)
              exact ⟨rfl, (Keep.nil.ss hw).to_new⟩
            ·
              first | (exfalso; omega) | exact absurd rfl c38 | exact absurd (by simp) c38 | (exfalso; simp at c38; omega) | exact absurd ⟨rfl, rfl⟩ c38
          ·
            first | (exfalso; omega) | exact absurd rfl c33 | exact absurd (by simp) c33 | (exfalso; simp at c33; omega) | exact absurd ⟨rfl, rfl⟩ c33
end Go.Proofs.Ytlmohafmpgpnaaa.LFnExactMajorizes
