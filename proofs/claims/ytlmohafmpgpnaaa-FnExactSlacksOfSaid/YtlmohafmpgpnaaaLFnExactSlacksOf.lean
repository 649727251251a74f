/- Walks of functions of the given program: each returns what its Lean function says and leaves the memory that was there as it was. Conditions: those of each theorem. -/
import Derived.Test.YtlmohafmpgpnaaaSy
import Derived.Test.YtlmohafmpgpnaaaProg
import Derived.Test.YtlmohafmpgpnaaaPl
import Derived.Test.YtlmohafmpgpnaaaPo
import Derived.Test.YtlmohafmpgpnaaaPd
import Derived.Test.YtlmohafmpgpnaaaPe
import Derived.Test.YtlmohafmpgpnaaaSo
import Derived.Test.YtlmohafmpgpnaaaSh
import Derived.Test.YtlmohafmpgpnaaaT
import Derived.Test.YtlmohafmpgpnaaaW2
import Derived.Test.YtlmohafmpgpnaaaW7
import Derived.KernelRfl
namespace Go.Proofs.Ytlmohafmpgpnaaa.LFnExactSlacksOf
open Go.Sx Go.RowKit Go.Proofs.Ytlmohafmpgpnaaa.T Go.Proofs.Ytlmohafmpgpnaaa.W2 Go.Proofs.Ytlmohafmpgpnaaa.W7
open Go.Plain
set_option linter.unusedVariables false
set_option maxRecDepth 100000 in
theorem FnExactSlacksOf_c (w : World) (A : Option Addr) (n : Nat) (c : Nat) (xs : List (Int)) (hA : At w A (cells fI xs)) (eA : xs.length = n) (lA : n ≤ c) : Calls Try.prog 7 #[.slice A (n) (c)] w (Ret fun rv w' => rv = .bool true ∧ New w w' []) := by
  have oA := hA.atB
  subst eA
  have hll : (slacksV xs).length ≤ 7 := slacksV_len xs
  refine fn_enter (args := [.slice A (xs.length) (c)]) Try.func7 rfl Try.ntmps7 rfl (SS.start w) ?_
  refine cw_seq ?_
  refine cw_region ?_
  refine wl_v (ov_assign rfl) rfl rfl rfl ?_
  refine wl_nil ?_
  refine ce_then ?_
  refine cw_seq ?_
  refine cw_seq ?_
  refine cw_region ?_
  refine wl_v (ov_move rfl) rfl rfl rfl ?_
  refine wl_v (ov_len (sliceI_spec sI22) rfl) rfl rfl rfl ?_
  refine wl_if (ov_gtr rfl rfl) rfl rfl rfl (fun c12 => ?_) (fun c12 => ?_)
  ·
    refine wl_nil ?_
    refine ce_then ?_
    refine cw_true rfl ?_
    refine cw_seq ?_
    refine cw_region ?_
    refine wl_v (ov_assign rfl) rfl rfl rfl ?_
    refine wl_nil ?_
    refine ce_then ?_
    refine cw_ret ?_
    refine ce_then_ret ?_
    refine ce_results (v := .bool true) (res1 rfl (rv_t rfl)) (fun w' hw => ?_)
    exact ⟨rfl, (Keep.nil.ss hw).to_new⟩
  ·
    refine wl_nil ?_
    refine ce_then ?_
    refine cw_false rfl ?_
    refine cw_skip ?_
    refine ce_then ?_
    refine cw_seq ?_
    refine cw_region ?_
    refine wl_v (ov_move rfl) rfl rfl rfl ?_
    refine wl_r (or_call (fv := []) (vs := [.slice A (xs.length) (c)]) (cs := []) en11 rfl rfl (call_x1 (fun w hw => toIntS_c w A xs.length c xs ((holds_old oA) w hw) rfl lA (by first | assumption | omega | (simp; omega))))) rfl rfl (kt1p rfl (fun g_14 h_14 => ?_))
    refine wl_r (or_call (fv := []) (vs := [.slice (some ⟨g_14, 0, none⟩) (xs.length) (xs.length)]) (cs := []) en22 rfl rfl (call_x2 (fun w hw => SlacksOfS_c w (some ⟨g_14, 0, none⟩) xs.length xs.length xs ((holds_row (List.Mem.head _)) w hw) rfl (Nat.le_refl _) (by first | assumption | omega | (simp; omega))))) rfl rfl (kt2p rfl (fun A2_15 c2_15 h_15 => ?_))
    refine wl_v (ov_assign rfl) rfl rfl rfl ?_
    refine wl_nil ?_
    refine ce_then ?_
    refine cw_seq ?_
    refine cw_region ?_
    refine wl_v (ov_move rfl) rfl rfl rfl ?_
    refine wl_r (or_call (fv := []) (vs := [.slice A (xs.length) (c)]) (cs := []) en11 rfl rfl (call_x1 (fun w hw => toIntS_c w A xs.length c xs ((holds_old oA) w hw) rfl lA (by first | assumption | omega | (simp; omega))))) rfl rfl (kt1p rfl (fun g_17 h_17 => ?_))
    refine wl_v (ov_assign rfl) rfl rfl rfl ?_
    refine wl_nil ?_
    refine ce_then ?_
    refine cw_seq ?_
    refine cw_region ?_
    refine wl_v (ov_move rfl) rfl rfl rfl ?_
    refine wl_r (or_call (fv := []) (vs := [.slice (some ⟨g_17, 0, none⟩) (xs.length) (xs.length)]) (cs := []) en23 rfl rfl (call_x2 (fun w hw => SlacksOfI_c w (some ⟨g_17, 0, none⟩) xs.length xs.length xs ((holds_row (List.Mem.head _)) w hw) rfl (Nat.le_refl _) (by first | assumption | omega | (simp; omega))))) rfl rfl (kt2p rfl (fun A2_19 c2_19 h_19 => ?_))
    refine wl_v (ov_assign rfl) rfl rfl rfl ?_
    refine wl_nil ?_
    refine ce_then ?_
    refine cw_seq ?_
    refine cw_seq ?_
    refine cw_region ?_
    refine wl_v (ov_move rfl) rfl rfl rfl ?_
    refine wl_v (ov_move rfl) rfl rfl rfl ?_
    refine wl_r (or_call (fv := []) (vs := [.slice A2_19 ((slacksV xs).length) (c2_19), .slice A2_15 ((slacksV xs).length) (c2_15)]) (cs := []) en13 rfl rfl (call_v (fun w hw => eqIntS_c w A2_19 ((slacksV xs).length) c2_19 (slacksV xs) A2_15 ((slacksV xs).length) c2_15 (slacksV xs) ((holds_row (List.Mem.head _)) w hw) rfl h_19 ((holds_row (List.Mem.tail _ (List.Mem.tail _ (List.Mem.head _)))) w hw) rfl h_15 (by first | assumption | omega | (simp; omega))))) rfl rfl (kt_if rfl (fun c22 => ?_) (fun c22 => ?_))
    ·
      refine wl_v (ov_not rfl) rfl rfl rfl ?_
      refine wl_nil ?_
      refine ce_then ?_
      refine cw_false rfl ?_
      refine cw_skip ?_
      refine ce_then ?_
      refine cw_seq ?_
      refine cw_seq ?_
      refine cw_region ?_
      refine wl_v (ov_move rfl) rfl rfl rfl ?_
      refine wl_v (ov_move rfl) rfl rfl rfl ?_
      refine wl_r (or_call (fv := []) (vs := [.slice A (xs.length) (c)]) (cs := []) en11 rfl rfl (call_x1 (fun w hw => toIntS_c w A xs.length c xs ((holds_old oA) w hw) rfl lA (by first | assumption | omega | (simp; omega))))) rfl rfl (kt1p rfl (fun g_26 h_26 => ?_))
      refine wl_r (or_call (fv := []) (vs := [.slice (some ⟨g_17, 0, none⟩) (xs.length) (xs.length), .slice (some ⟨g_26, 0, none⟩) (xs.length) (xs.length)]) (cs := []) en13 rfl rfl (call_v (fun w hw => eqIntS_c w (some ⟨g_17, 0, none⟩) xs.length xs.length xs (some ⟨g_26, 0, none⟩) xs.length xs.length xs ((holds_row (List.Mem.tail _ (List.Mem.tail _ (List.Mem.head _)))) w hw) rfl (Nat.le_refl _) ((holds_row (List.Mem.head _)) w hw) rfl (Nat.le_refl _) (by first | assumption | omega | (simp; omega))))) rfl rfl (kt_if rfl (fun c27 => ?_) (fun c27 => ?_))
      ·
        refine wl_v (ov_not rfl) rfl rfl rfl ?_
        refine wl_nil ?_
        refine ce_then ?_
        refine cw_false rfl ?_
        refine cw_skip ?_
        refine ce_then ?_
        refine cw_seq ?_
        refine cw_region ?_
        refine wl_v (ov_assign rfl) rfl rfl rfl ?_
        refine wl_nil ?_
        refine ce_then ?_
        refine cw_seq ?_
        refine cw_region ?_
        refine wl_v (ov_move rfl) rfl rfl rfl ?_
        refine wl_v (ov_move rfl) rfl rfl rfl ?_
        refine wl_r (or_call (fv := []) (vs := [.slice (some ⟨g_17, 0, none⟩) (xs.length) (xs.length), .int .i64 (1)]) (cs := []) en20 rfl rfl (call_m (.tail (.tail .head)) (fun w hw => markIntS_c w _ _ _ (some ⟨g_17, 0, none⟩) xs.length xs.length xs.length xs 1 rfl (Nat.le_refl _) (by first | assumption | omega | (simp; omega)) (by first | assumption | omega | (simp; omega)) hw))) rfl rfl (kt0 rfl ?_)
        refine wl_v (ov_assign rfl) rfl rfl rfl ?_
        refine wl_nil ?_
        refine ce_then ?_
        refine cw_seq ?_
        refine cw_seq ?_
        refine cw_region ?_
        refine wl_v (ov_move rfl) rfl rfl rfl ?_
        refine wl_if (ov_lss rfl rfl) rfl rfl rfl (fun c33 => ?_) (fun c33 => ?_)
        ·
          exfalso; omega
        ·
          refine wl_v (ov_move rfl) rfl rfl rfl ?_
          refine wl_go rfl rfl ?_
          refine wl_v (ov_move rfl) rfl rfl rfl ?_
          refine wl_go rfl rfl ?_
          refine wl_v (ov_move rfl) rfl rfl rfl ?_
          refine wl_go rfl rfl ?_
          refine wl_r (or_call (fv := []) (vs := [.slice A2_19 ((slacksV xs).length) (c2_19), .slice A2_15 ((slacksV xs).length) (c2_15)]) (cs := []) en13 rfl rfl (call_v (fun w hw => eqIntS_c w A2_19 ((slacksV xs).length) c2_19 (slacksV xs) A2_15 ((slacksV xs).length) c2_15 (slacksV xs) ((holds_row (List.Mem.tail _ (List.Mem.tail _ (List.Mem.head _)))) w hw) rfl h_19 ((holds_row (List.Mem.tail _ (List.Mem.tail _ (List.Mem.tail _ (List.Mem.head _))))) w hw) rfl h_15 (by first | assumption | omega | (simp; omega))))) rfl rfl (kt_if rfl (fun c37 => ?_) (fun c37 => ?_))
          ·
            refine wl_go rfl rfl ?_
            refine wl_v (ov_not rfl) rfl rfl rfl ?_
            refine wl_v (ov_pick_f rfl rfl) rfl rfl rfl ?_
            refine wl_nil ?_
            refine ce_then ?_
            refine cw_false rfl ?_
            refine cw_skip ?_
            refine ce_then ?_
            refine cw_seq ?_
            refine cw_region ?_
            refine wl_v (ov_assign rfl) rfl rfl rfl ?_
            refine wl_nil ?_
            refine ce_then ?_
            refine cw_seq ?_
            refine cw_region ?_
            refine wl_v (ov_move rfl) rfl rfl rfl ?_
            refine wl_v (ov_move rfl) rfl rfl rfl ?_
            refine wl_r (or_call (fv := []) (vs := [.slice A2_19 ((slacksV xs).length) (c2_19), .int .i64 (1)]) (cs := []) en20 rfl rfl (call_m (.tail (.tail .head)) (fun w hw => markIntS_c w _ _ _ A2_19 ((slacksV xs).length) c2_19 c2_19 (slacksV xs) 1 rfl h_19 (by first | assumption | omega | (simp; omega)) (by first | assumption | omega | (simp; omega)) hw))) rfl rfl (kt0 rfl ?_)
            refine wl_v (ov_assign rfl) rfl rfl rfl ?_
            refine wl_nil ?_
            refine ce_then ?_
            refine cw_seq ?_
            refine cw_region ?_
            refine wl_v (ov_assign rfl) rfl rfl rfl ?_
            refine wl_nil ?_
            refine ce_then ?_
            refine cw_seq ?_
            refine cw_region ?_
            refine wl_v (ov_move rfl) rfl rfl rfl ?_
            refine wl_v (ov_move rfl) rfl rfl rfl ?_
            refine wl_r (or_call (fv := []) (vs := [.slice A2_19 ((slacksV xs).length) (c2_19), .int .i64 (1)]) (cs := []) en21 rfl rfl (call_v (fun w hw => heldIntS_c w A2_19 ((slacksV xs).length) c2_19 (marks 1 ((slacksV xs).length)) 1 ((holds_row (List.Mem.head _)) w hw) (marks_length _ _) h_19 (by rw [marks_length]; omega) (by first | assumption | omega | (simp; omega))))) rfl rfl (kt0 rfl ?_)
            refine wl_v (ov_assign rfl) rfl rfl rfl ?_
            refine wl_nil ?_
            refine ce_then ?_
            refine cw_seq ?_
            refine cw_seq ?_
            refine cw_region ?_
            refine wl_v (ov_move rfl) rfl rfl rfl ?_
            refine wl_if (ov_lss rfl rfl) rfl rfl rfl (fun c47 => ?_) (fun c47 => ?_)
            ·
              exfalso; simp at c47; omega
            ·
              refine wl_nil ?_
              refine ce_then ?_
              refine cw_false rfl ?_
              refine cw_skip ?_
              refine ce_then ?_
              refine cw_seq ?_
              refine cw_seq ?_
              refine cw_region ?_
              refine wl_v (ov_move rfl) rfl rfl rfl ?_
              refine wl_v (ov_move rfl) rfl rfl rfl ?_
              refine wl_if (ov_neq rfl rfl) rfl rfl rfl (fun c50 => ?_) (fun c50 => ?_)
              ·
                exact absurd (by simp) c50
              ·
                refine wl_nil ?_
                refine ce_then ?_
                refine cw_false rfl ?_
                refine cw_skip ?_
                refine ce_then ?_
                refine cw_seq ?_
                refine cw_region ?_
                refine wl_v (ov_move rfl) rfl rfl rfl ?_
                refine wl_r (or_call (fv := []) (vs := [.slice A (xs.length) (c)]) (cs := []) en11 rfl rfl (call_x1 (fun w hw => toIntS_c w A xs.length c xs ((holds_old oA) w hw) rfl lA (by first | assumption | omega | (simp; omega))))) rfl rfl (kt1p rfl (fun g_52 h_52 => ?_))
                refine wl_r (or_call (fv := []) (vs := [.slice (some ⟨g_52, 0, none⟩) (xs.length) (xs.length)]) (cs := []) en23 rfl rfl (call_x2 (fun w hw => SlacksOfI_c w (some ⟨g_52, 0, none⟩) xs.length xs.length xs ((holds_row (List.Mem.head _)) w hw) rfl (Nat.le_refl _) (by first | assumption | omega | (simp; omega))))) rfl rfl (kt2p rfl (fun A2_53 c2_53 h_53 => ?_))
                refine wl_v (ov_assign rfl) rfl rfl rfl ?_
                refine wl_nil ?_
                refine ce_then ?_
                refine cw_seq ?_
                refine cw_seq ?_
                refine cw_region ?_
                refine wl_v (ov_move rfl) rfl rfl rfl ?_
                refine wl_v (ov_move rfl) rfl rfl rfl ?_
                refine wl_r (or_call (fv := []) (vs := [.slice A2_53 ((slacksV xs).length) (c2_53), .slice A2_15 ((slacksV xs).length) (c2_15)]) (cs := []) en13 rfl rfl (call_v (fun w hw => eqIntS_c w A2_53 ((slacksV xs).length) c2_53 (slacksV xs) A2_15 ((slacksV xs).length) c2_15 (slacksV xs) ((holds_row (List.Mem.head _)) w hw) rfl h_53 ((holds_row (List.Mem.tail _ (List.Mem.tail _ (List.Mem.tail _ (List.Mem.tail _ (List.Mem.tail _ (List.Mem.head _))))))) w hw) rfl h_15 (by first | assumption | omega | (simp; omega))))) rfl rfl (kt_if rfl (fun c56 => ?_) (fun c56 => ?_))
                ·
                  refine wl_v (ov_not rfl) rfl rfl rfl ?_
                  refine wl_nil ?_
                  refine ce_then ?_
                  refine cw_false rfl ?_
                  refine cw_skip ?_
                  refine ce_then ?_
                  refine cw_seq ?_
                  refine cw_region ?_
                  refine wl_v (ov_assign rfl) rfl rfl rfl ?_
                  refine wl_nil ?_
                  refine ce_then ?_
                  refine cw_seq ?_
                  refine cw_region ?_
                  refine wl_v (ov_move rfl) rfl rfl rfl ?_
                  refine wl_v (ov_move rfl) rfl rfl rfl ?_
                  refine wl_r (or_call (fv := []) (vs := [.slice A2_19 ((slacksV xs).length) (c2_19), .int .i64 (1)]) (cs := []) en21 rfl rfl (call_v (fun w hw => heldIntS_c w A2_19 ((slacksV xs).length) c2_19 (marks 1 ((slacksV xs).length)) 1 ((holds_row (List.Mem.tail _ (List.Mem.tail _ (List.Mem.head _)))) w hw) (marks_length _ _) h_19 (by rw [marks_length]; omega) (by first | assumption | omega | (simp; omega))))) rfl rfl (kt0 rfl ?_)
                  refine wl_v (ov_assign rfl) rfl rfl rfl ?_
                  refine wl_nil ?_
                  refine ce_then ?_
                  refine cw_seq ?_
                  refine cw_seq ?_
                  refine cw_region ?_
                  refine wl_v (ov_move rfl) rfl rfl rfl ?_
                  refine wl_if (ov_lss rfl rfl) rfl rfl rfl (fun c62 => ?_) (fun c62 => ?_)
                  ·
                    exfalso; simp at c62; omega
                  ·
                    refine wl_nil ?_
                    refine ce_then ?_
                    refine cw_false rfl ?_
                    refine cw_skip ?_
                    refine ce_then ?_
                    refine cw_seq ?_
                    refine cw_seq ?_
                    refine cw_region ?_
                    refine wl_v (ov_move rfl) rfl rfl rfl ?_
                    refine wl_v (ov_move rfl) rfl rfl rfl ?_
                    refine wl_if (ov_neq rfl rfl) rfl rfl rfl (fun c65 => ?_) (fun c65 => ?_)
                    ·
                      exact absurd (by simp) c65
                    ·
                      refine wl_nil ?_
                      refine ce_then ?_
                      refine cw_false rfl ?_
                      refine cw_skip ?_
                      refine ce_then ?_
                      refine cw_seq ?_
                      refine cw_region ?_
                      refine wl_v (ov_assign rfl) rfl rfl rfl ?_
                      refine wl_nil ?_
                      refine ce_then ?_
                      refine cw_ret ?_
                      refine ce_results (v := .bool true) (res1 rfl (rv_t rfl)) (fun w' hw => ?_)
                      exact ⟨rfl, (Keep.nil.ss hw).to_new⟩
                ·
                  exact absurd rfl c56
          ·
            exact absurd rfl c37
      ·
        exact absurd rfl c27
    ·
      exact absurd rfl c22
end Go.Proofs.Ytlmohafmpgpnaaa.LFnExactSlacksOf
