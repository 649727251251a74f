/- Walks of functions of the given program: each returns what its Lean function says and leaves the memory that was there as it was. Conditions: those of each theorem. -/
import Derived.Test.YtlmohafmpgpnaaaSy
import Derived.Test.YtlmohafmpgpnaaaProg
import Derived.Test.YtlmohafmpgpnaaaPl
import Derived.Test.YtlmohafmpgpnaaaPo
import Derived.Test.YtlmohafmpgpnaaaPd
import Derived.Test.YtlmohafmpgpnaaaPe
import Derived.Test.YtlmohafmpgpnaaaSo
import Derived.Test.YtlmohafmpgpnaaaSh
import Derived.Test.YtlmohafmpgpnaaaT
import Derived.Test.YtlmohafmpgpnaaaW2
import Derived.Test.YtlmohafmpgpnaaaW10
import Derived.KernelRfl
namespace Go.Proofs.Ytlmohafmpgpnaaa.LFnExactGaleSlacks
open Go.Sx Go.RowKit Go.Proofs.Ytlmohafmpgpnaaa.T Go.Proofs.Ytlmohafmpgpnaaa.W2 Go.Proofs.Ytlmohafmpgpnaaa.W10
open Go.Plain
set_option linter.unusedVariables false
set_option maxRecDepth 100000 in
theorem FnExactGaleSlacks_c (w : World) (A : Option Addr) (n : Nat) (c : Nat) (xs : List (Int)) (A2 : Option Addr) (n2 : Nat) (c2 : Nat) (ys : List (Int)) (hA : At w A (cells fI xs)) (eA : xs.length = n) (lA : n ≤ c) (hA2 : At w A2 (cells fI ys)) (eA2 : ys.length = n2) (lA2 : n2 ≤ c2) : Calls Try.prog 8 #[.slice A (n) (c), .slice A2 (n2) (c2)] w (Ret fun rv w' => rv = .bool true ∧ New w w' []) := by
  have oA := hA.atB
  subst eA
  have oA2 := hA2.atB
  subst eA2
  have hll : (galeV xs ys).length ≤ 5 := galeV_len xs ys
  refine fn_enter (args := [.slice A (xs.length) (c), .slice A2 (ys.length) (c2)]) Try.func8 rfl Try.ntmps8 rfl (SS.start w) ?_
  refine cw_seq ?_
  refine cw_region ?_
  refine wl_v (ov_assign rfl) rfl rfl rfl ?_
  refine wl_nil ?_
  refine ce_then ?_
  refine cw_seq ?_
  refine cw_seq ?_
  refine cw_region ?_
  refine wl_v (ov_move rfl) rfl rfl rfl ?_
  refine wl_v (ov_len (sliceI_spec sI22) rfl) rfl rfl rfl ?_
  refine wl_if (ov_gtr rfl rfl) rfl rfl rfl (fun c15 => ?_) (fun c15 => ?_)
  ·
    refine wl_nil ?_
    refine ce_then ?_
    refine cw_true rfl ?_
    refine cw_seq ?_
    refine cw_region ?_
    refine wl_v (ov_assign rfl) rfl rfl rfl ?_
    refine wl_nil ?_
    refine ce_then ?_
    refine cw_ret ?_
    refine ce_then_ret ?_
    refine ce_results (v := .bool true) (res1 rfl (rv_t rfl)) (fun w' hw => ?_)
    exact ⟨rfl, (Keep.nil.ss hw).to_new⟩
  ·
    refine wl_nil ?_
    refine ce_then ?_
    refine cw_false rfl ?_
    refine cw_skip ?_
    refine ce_then ?_
    refine cw_seq ?_
    refine cw_seq ?_
    refine cw_region ?_
    refine wl_v (ov_move rfl) rfl rfl rfl ?_
    refine wl_v (ov_len (sliceI_spec sI22) rfl) rfl rfl rfl ?_
    refine wl_if (ov_gtr rfl rfl) rfl rfl rfl (fun c18 => ?_) (fun c18 => ?_)
    ·
      refine wl_nil ?_
      refine ce_then ?_
      refine cw_true rfl ?_
      refine cw_seq ?_
      refine cw_region ?_
      refine wl_v (ov_assign rfl) rfl rfl rfl ?_
      refine wl_nil ?_
      refine ce_then ?_
      refine cw_ret ?_
      refine ce_then_ret ?_
      refine ce_results (v := .bool true) (res1 rfl (rv_t rfl)) (fun w' hw => ?_)
      exact ⟨rfl, (Keep.nil.ss hw).to_new⟩
    ·
      refine wl_nil ?_
      refine ce_then ?_
      refine cw_false rfl ?_
      refine cw_skip ?_
      refine ce_then ?_
      refine cw_seq ?_
      refine cw_region ?_
      refine wl_v (ov_move rfl) rfl rfl rfl ?_
      refine wl_r (or_call (fv := []) (vs := [.slice A (xs.length) (c)]) (cs := []) en11 rfl rfl (call_x1 (fun w hw => toIntS_c w A xs.length c xs ((holds_old oA) w hw) rfl lA (by first | assumption | omega | (simp; omega))))) rfl rfl (kt1p rfl (fun g_20 h_20 => ?_))
      refine wl_v (ov_move rfl) rfl rfl rfl ?_
      refine wl_r (or_call (fv := []) (vs := [.slice A2 (ys.length) (c2)]) (cs := []) en11 rfl rfl (call_x1 (fun w hw => toIntS_c w A2 ys.length c2 ys ((holds_old oA2) w hw) rfl lA2 (by first | assumption | omega | (simp; omega))))) rfl rfl (kt1p rfl (fun g_22 h_22 => ?_))
      refine wl_r (or_call (fv := []) (vs := [.slice (some ⟨g_20, 0, none⟩) (xs.length) (xs.length), .slice (some ⟨g_22, 0, none⟩) (ys.length) (ys.length)]) (cs := []) en24 rfl rfl (call_x2 (fun w hw => GaleSlacksS_c w (some ⟨g_20, 0, none⟩) xs.length xs.length xs (some ⟨g_22, 0, none⟩) ys.length ys.length ys ((holds_row (List.Mem.tail _ (List.Mem.head _))) w hw) rfl (Nat.le_refl _) ((holds_row (List.Mem.head _)) w hw) rfl (Nat.le_refl _) (by first | assumption | omega | (simp; omega))))) rfl rfl (kt2p rfl (fun A3_23 c3_23 h_23 => ?_))
      refine wl_v (ov_assign rfl) rfl rfl rfl ?_
      refine wl_nil ?_
      refine ce_then ?_
      refine cw_seq ?_
      refine cw_region ?_
      refine wl_v (ov_move rfl) rfl rfl rfl ?_
      refine wl_r (or_call (fv := []) (vs := [.slice A (xs.length) (c)]) (cs := []) en11 rfl rfl (call_x1 (fun w hw => toIntS_c w A xs.length c xs ((holds_old oA) w hw) rfl lA (by first | assumption | omega | (simp; omega))))) rfl rfl (kt1p rfl (fun g_25 h_25 => ?_))
      refine wl_v (ov_assign rfl) rfl rfl rfl ?_
      refine wl_nil ?_
      refine ce_then ?_
      refine cw_seq ?_
      refine cw_region ?_
      refine wl_v (ov_move rfl) rfl rfl rfl ?_
      refine wl_r (or_call (fv := []) (vs := [.slice A2 (ys.length) (c2)]) (cs := []) en11 rfl rfl (call_x1 (fun w hw => toIntS_c w A2 ys.length c2 ys ((holds_old oA2) w hw) rfl lA2 (by first | assumption | omega | (simp; omega))))) rfl rfl (kt1p rfl (fun g_27 h_27 => ?_))
      refine wl_v (ov_assign rfl) rfl rfl rfl ?_
      refine wl_nil ?_
      refine ce_then ?_
      refine cw_seq ?_
      refine cw_region ?_
      refine wl_v (ov_move rfl) rfl rfl rfl ?_
      refine wl_v (ov_move rfl) rfl rfl rfl ?_
      refine wl_r (or_call (fv := []) (vs := [.slice (some ⟨g_25, 0, none⟩) (xs.length) (xs.length), .slice (some ⟨g_27, 0, none⟩) (ys.length) (ys.length)]) (cs := []) en25 rfl rfl (call_x2 (fun w hw => GaleSlacksI_c w (some ⟨g_25, 0, none⟩) xs.length xs.length xs (some ⟨g_27, 0, none⟩) ys.length ys.length ys ((holds_row (List.Mem.tail _ (List.Mem.head _))) w hw) rfl (Nat.le_refl _) ((holds_row (List.Mem.head _)) w hw) rfl (Nat.le_refl _) (by first | assumption | omega | (simp; omega))))) rfl rfl (kt2p rfl (fun A3_30 c3_30 h_30 => ?_))
      refine wl_v (ov_assign rfl) rfl rfl rfl ?_
      refine wl_nil ?_
      refine ce_then ?_
      refine cw_seq ?_
      refine cw_seq ?_
      refine cw_region ?_
      refine wl_v (ov_move rfl) rfl rfl rfl ?_
      refine wl_v (ov_move rfl) rfl rfl rfl ?_
      refine wl_r (or_call (fv := []) (vs := [.slice A3_30 ((galeV xs ys).length) (c3_30), .slice A3_23 ((galeV xs ys).length) (c3_23)]) (cs := []) en13 rfl rfl (call_v (fun w hw => eqIntS_c w A3_30 ((galeV xs ys).length) c3_30 (galeV xs ys) A3_23 ((galeV xs ys).length) c3_23 (galeV xs ys) ((holds_row (List.Mem.head _)) w hw) rfl h_30 ((holds_row (List.Mem.tail _ (List.Mem.tail _ (List.Mem.tail _ (List.Mem.head _))))) w hw) rfl h_23 (by first | assumption | omega | (simp; omega))))) rfl rfl (kt_if rfl (fun c33 => ?_) (fun c33 => ?_))
      ·
        refine wl_v (ov_not rfl) rfl rfl rfl ?_
        refine wl_nil ?_
        refine ce_then ?_
        refine cw_false rfl ?_
        refine cw_skip ?_
        refine ce_then ?_
        refine cw_seq ?_
        refine cw_seq ?_
        refine cw_region ?_
        refine wl_v (ov_move rfl) rfl rfl rfl ?_
        refine wl_v (ov_move rfl) rfl rfl rfl ?_
        refine wl_r (or_call (fv := []) (vs := [.slice A (xs.length) (c)]) (cs := []) en11 rfl rfl (call_x1 (fun w hw => toIntS_c w A xs.length c xs ((holds_old oA) w hw) rfl lA (by first | assumption | omega | (simp; omega))))) rfl rfl (kt1p rfl (fun g_37 h_37 => ?_))
        refine wl_r (or_call (fv := []) (vs := [.slice (some ⟨g_25, 0, none⟩) (xs.length) (xs.length), .slice (some ⟨g_37, 0, none⟩) (xs.length) (xs.length)]) (cs := []) en13 rfl rfl (call_v (fun w hw => eqIntS_c w (some ⟨g_25, 0, none⟩) xs.length xs.length xs (some ⟨g_37, 0, none⟩) xs.length xs.length xs ((holds_row (List.Mem.tail _ (List.Mem.tail _ (List.Mem.tail _ (List.Mem.head _))))) w hw) rfl (Nat.le_refl _) ((holds_row (List.Mem.head _)) w hw) rfl (Nat.le_refl _) (by first | assumption | omega | (simp; omega))))) rfl rfl (kt_if rfl (fun c38 => ?_) (fun c38 => ?_))
        ·
          refine wl_v (ov_not rfl) rfl rfl rfl ?_
          refine wl_nil ?_
          refine ce_then ?_
          refine cw_false rfl ?_
          refine cw_skip ?_
          refine ce_then ?_
          refine cw_seq ?_
          refine cw_seq ?_
          refine cw_region ?_
          refine wl_v (ov_move rfl) rfl rfl rfl ?_
          refine wl_v (ov_move rfl) rfl rfl rfl ?_
          refine wl_r (or_call (fv := []) (vs := [.slice A2 (ys.length) (c2)]) (cs := []) en11 rfl rfl (call_x1 (fun w hw => toIntS_c w A2 ys.length c2 ys ((holds_old oA2) w hw) rfl lA2 (by first | assumption | omega | (simp; omega))))) rfl rfl (kt1p rfl (fun g_42 h_42 => ?_))
          refine wl_r (or_call (fv := []) (vs := [.slice (some ⟨g_27, 0, none⟩) (ys.length) (ys.length), .slice (some ⟨g_42, 0, none⟩) (ys.length) (ys.length)]) (cs := []) en13 rfl rfl (call_v (fun w hw => eqIntS_c w (some ⟨g_27, 0, none⟩) ys.length ys.length ys (some ⟨g_42, 0, none⟩) ys.length ys.length ys ((holds_row (List.Mem.tail _ (List.Mem.tail _ (List.Mem.tail _ (List.Mem.head _))))) w hw) rfl (Nat.le_refl _) ((holds_row (List.Mem.head _)) w hw) rfl (Nat.le_refl _) (by first | assumption | omega | (simp; omega))))) rfl rfl (kt_if rfl (fun c43 => ?_) (fun c43 => ?_))
          ·
            refine wl_v (ov_not rfl) rfl rfl rfl ?_
            refine wl_nil ?_
            refine ce_then ?_
            refine cw_false rfl ?_
            refine cw_skip ?_
            refine ce_then ?_
            refine cw_seq ?_
            refine cw_region ?_
            refine wl_v (ov_assign rfl) rfl rfl rfl ?_
            refine wl_nil ?_
            refine ce_then ?_
            refine cw_seq ?_
            refine cw_region ?_
            refine wl_v (ov_move rfl) rfl rfl rfl ?_
            refine wl_v (ov_move rfl) rfl rfl rfl ?_
            refine wl_r (or_call (fv := []) (vs := [.slice (some ⟨g_25, 0, none⟩) (xs.length) (xs.length), .int .i64 (1)]) (cs := []) en20 rfl rfl (call_m (.tail (.tail (.tail (.tail .head)))) (fun w hw => markIntS_c w _ _ _ (some ⟨g_25, 0, none⟩) xs.length xs.length xs.length xs 1 rfl (Nat.le_refl _) (by first | assumption | omega | (simp; omega)) (by first | assumption | omega | (simp; omega)) hw))) rfl rfl (kt0 rfl ?_)
            refine wl_v (ov_assign rfl) rfl rfl rfl ?_
            refine wl_nil ?_
            refine ce_then ?_
            refine cw_seq ?_
            refine cw_region ?_
            refine wl_v (ov_move rfl) rfl rfl rfl ?_
            refine wl_v (ov_move rfl) rfl rfl rfl ?_
            refine wl_r (or_call (fv := []) (vs := [.slice (some ⟨g_27, 0, none⟩) (ys.length) (ys.length), .int .i64 (1 + xs.length)]) (cs := []) en20 rfl rfl (call_m (.tail (.tail (.tail (.tail .head)))) (fun w hw => markIntS_c w _ _ _ (some ⟨g_27, 0, none⟩) ys.length ys.length ys.length ys (1 + xs.length) rfl (Nat.le_refl _) (by first | assumption | omega | (simp; omega)) (by first | assumption | omega | (simp; omega)) hw))) rfl rfl (kt0 rfl ?_)
            refine wl_v (ov_assign rfl) rfl rfl rfl ?_
            refine wl_nil ?_
            refine ce_then ?_
            refine cw_seq ?_
            refine cw_seq ?_
            refine cw_region ?_
            refine wl_v (ov_move rfl) rfl rfl rfl ?_
            refine wl_if (ov_lss rfl rfl) rfl rfl rfl (fun c52 => ?_) (fun c52 => ?_)
            ·
              first | (exfalso; omega) | exact absurd rfl c52 | exact absurd (by simp) c52 | (exfalso; simp at c52; omega) | exact absurd ⟨rfl, rfl⟩ c52
            ·
              refine wl_v (ov_move rfl) rfl rfl rfl ?_
              refine wl_go rfl rfl ?_
              refine wl_v (ov_move rfl) rfl rfl rfl ?_
              refine wl_go rfl rfl ?_
              refine wl_v (ov_move rfl) rfl rfl rfl ?_
              refine wl_go rfl rfl ?_
              refine wl_r (or_call (fv := []) (vs := [.slice A3_30 ((galeV xs ys).length) (c3_30), .slice A3_23 ((galeV xs ys).length) (c3_23)]) (cs := []) en13 rfl rfl (call_v (fun w hw => eqIntS_c w A3_30 ((galeV xs ys).length) c3_30 (galeV xs ys) A3_23 ((galeV xs ys).length) c3_23 (galeV xs ys) ((holds_row (List.Mem.tail _ (List.Mem.tail _ (List.Mem.tail _ (List.Mem.tail _ (List.Mem.head _)))))) w hw) rfl h_30 ((holds_row (List.Mem.tail _ (List.Mem.tail _ (List.Mem.tail _ (List.Mem.tail _ (List.Mem.tail _ (List.Mem.head _))))))) w hw) rfl h_23 (by first | assumption | omega | (simp; omega))))) rfl rfl (kt_if rfl (fun c56 => ?_) (fun c56 => ?_))
              ·
                refine wl_go rfl rfl ?_
                refine wl_v (ov_not rfl) rfl rfl rfl ?_
                refine wl_v (ov_pick_f rfl rfl) rfl rfl rfl ?_
                refine wl_nil ?_
                refine ce_then ?_
                refine cw_false rfl ?_
                refine cw_skip ?_
                refine ce_then ?_
                refine cw_seq ?_
                refine cw_region ?_
                refine wl_v (ov_assign rfl) rfl rfl rfl ?_
                refine wl_nil ?_
                refine ce_then ?_
                refine cw_seq ?_
                refine cw_region ?_
                refine wl_v (ov_move rfl) rfl rfl rfl ?_
                refine wl_v (ov_move rfl) rfl rfl rfl ?_
                refine wl_r (or_call (fv := []) (vs := [.slice A3_30 ((galeV xs ys).length) (c3_30), .int .i64 (1)]) (cs := []) en20 rfl rfl (call_m (.tail (.tail (.tail (.tail .head)))) (fun w hw => markIntS_c w _ _ _ A3_30 ((galeV xs ys).length) c3_30 c3_30 (galeV xs ys) 1 rfl h_30 (by first | assumption | omega | (simp; omega)) (by first | assumption | omega | (simp; omega)) hw))) rfl rfl (kt0 rfl ?_)
                refine wl_v (ov_assign rfl) rfl rfl rfl ?_
                refine wl_nil ?_
                refine ce_then ?_
                refine cw_seq ?_
                refine cw_region ?_
                refine wl_v (ov_assign rfl) rfl rfl rfl ?_
                refine wl_nil ?_
                refine ce_then ?_
                refine cw_seq ?_
                refine cw_region ?_
                refine wl_v (ov_move rfl) rfl rfl rfl ?_
                refine wl_v (ov_move rfl) rfl rfl rfl ?_
                refine wl_r (or_call (fv := []) (vs := [.slice A3_30 ((galeV xs ys).length) (c3_30), .int .i64 (1)]) (cs := []) en21 rfl rfl (call_v (fun w hw => heldIntS_c w A3_30 ((galeV xs ys).length) c3_30 (marks 1 ((galeV xs ys).length)) 1 ((holds_row (List.Mem.head _)) w hw) (marks_length _ _) h_30 (by rw [marks_length]; omega) (by first | assumption | omega | (simp; omega))))) rfl rfl (kt0 rfl ?_)
                refine wl_v (ov_assign rfl) rfl rfl rfl ?_
                refine wl_nil ?_
                refine ce_then ?_
                refine cw_seq ?_
                refine cw_seq ?_
                refine cw_region ?_
                refine wl_v (ov_move rfl) rfl rfl rfl ?_
                refine wl_if (ov_lss rfl rfl) rfl rfl rfl (fun c66 => ?_) (fun c66 => ?_)
                ·
                  first | (exfalso; omega) | exact absurd rfl c66 | exact absurd (by simp) c66 | (exfalso; simp at c66; omega) | exact absurd ⟨rfl, rfl⟩ c66
                ·
                  refine wl_nil ?_
                  refine ce_then ?_
                  refine cw_false rfl ?_
                  refine cw_skip ?_
                  refine ce_then ?_
                  refine cw_seq ?_
                  refine cw_seq ?_
                  refine cw_region ?_
                  refine wl_v (ov_move rfl) rfl rfl rfl ?_
                  refine wl_v (ov_move rfl) rfl rfl rfl ?_
                  refine wl_if (ov_neq rfl rfl) rfl rfl rfl (fun c69 => ?_) (fun c69 => ?_)
                  ·
                    first | (exfalso; omega) | exact absurd rfl c69 | exact absurd (by simp) c69 | (exfalso; simp at c69; omega) | exact absurd ⟨rfl, rfl⟩ c69
                  ·
                    refine wl_nil ?_
                    refine ce_then ?_
                    refine cw_false rfl ?_
                    refine cw_skip ?_
                    refine ce_then ?_
                    refine cw_seq ?_
                    refine cw_region ?_
                    refine wl_v (ov_move rfl) rfl rfl rfl ?_
                    refine wl_r (or_call (fv := []) (vs := [.slice A (xs.length) (c)]) (cs := []) en11 rfl rfl (call_x1 (fun w hw => toIntS_c w A xs.length c xs ((holds_old oA) w hw) rfl lA (by first | assumption | omega | (simp; omega))))) rfl rfl (kt1p rfl (fun g_71 h_71 => ?_))
                    refine wl_v (ov_move rfl) rfl rfl rfl ?_
                    refine wl_r (or_call (fv := []) (vs := [.slice A2 (ys.length) (c2)]) (cs := []) en11 rfl rfl (call_x1 (fun w hw => toIntS_c w A2 ys.length c2 ys ((holds_old oA2) w hw) rfl lA2 (by first | assumption | omega | (simp; omega))))) rfl rfl (kt1p rfl (fun g_73 h_73 => ?_))
                    refine wl_r (or_call (fv := []) (vs := [.slice (some ⟨g_71, 0, none⟩) (xs.length) (xs.length), .slice (some ⟨g_73, 0, none⟩) (ys.length) (ys.length)]) (cs := []) en25 rfl rfl (call_x2 (fun w hw => GaleSlacksI_c w (some ⟨g_71, 0, none⟩) xs.length xs.length xs (some ⟨g_73, 0, none⟩) ys.length ys.length ys ((holds_row (List.Mem.tail _ (List.Mem.head _))) w hw) rfl (Nat.le_refl _) ((holds_row (List.Mem.head _)) w hw) rfl (Nat.le_refl _) (by first | assumption | omega | (simp; omega))))) rfl rfl (kt2p rfl (fun A3_74 c3_74 h_74 => ?_))
                    refine wl_v (ov_assign rfl) rfl rfl rfl ?_
                    refine wl_nil ?_
                    refine ce_then ?_
                    refine cw_seq ?_
                    refine cw_seq ?_
                    refine cw_region ?_
                    refine wl_v (ov_move rfl) rfl rfl rfl ?_
                    refine wl_v (ov_move rfl) rfl rfl rfl ?_
                    refine wl_r (or_call (fv := []) (vs := [.slice A3_74 ((galeV xs ys).length) (c3_74), .slice A3_23 ((galeV xs ys).length) (c3_23)]) (cs := []) en13 rfl rfl (call_v (fun w hw => eqIntS_c w A3_74 ((galeV xs ys).length) c3_74 (galeV xs ys) A3_23 ((galeV xs ys).length) c3_23 (galeV xs ys) ((holds_row (List.Mem.head _)) w hw) rfl h_74 ((holds_row (List.Mem.tail _ (List.Mem.tail _ (List.Mem.tail _ (List.Mem.tail _ (List.Mem.tail _ (List.Mem.tail _ (List.Mem.tail _ (List.Mem.tail _ (List.Mem.head _)))))))))) w hw) rfl h_23 (by first | assumption | omega | (simp; omega))))) rfl rfl (kt_if rfl (fun c77 => ?_) (fun c77 => ?_))
                    ·
                      refine wl_v (ov_not rfl) rfl rfl rfl ?_
                      refine wl_nil ?_
                      refine ce_then ?_
                      refine cw_false rfl ?_
                      refine cw_skip ?_
                      refine ce_then ?_
                      refine cw_seq ?_
                      refine cw_region ?_
                      refine wl_v (ov_assign rfl) rfl rfl rfl ?_
                      refine wl_nil ?_
                      refine ce_then ?_
                      refine cw_seq ?_
                      refine cw_region ?_
                      refine wl_v (ov_move rfl) rfl rfl rfl ?_
                      refine wl_v (ov_move rfl) rfl rfl rfl ?_
                      refine wl_r (or_call (fv := []) (vs := [.slice A3_30 ((galeV xs ys).length) (c3_30), .int .i64 (1)]) (cs := []) en21 rfl rfl (call_v (fun w hw => heldIntS_c w A3_30 ((galeV xs ys).length) c3_30 (marks 1 ((galeV xs ys).length)) 1 ((holds_row (List.Mem.tail _ (List.Mem.tail _ (List.Mem.tail _ (List.Mem.head _))))) w hw) (marks_length _ _) h_30 (by rw [marks_length]; omega) (by first | assumption | omega | (simp; omega))))) rfl rfl (kt0 rfl ?_)
                      refine wl_v (ov_assign rfl) rfl rfl rfl ?_
                      refine wl_nil ?_
                      refine ce_then ?_
                      refine cw_seq ?_
                      refine cw_seq ?_
                      refine cw_region ?_
                      refine wl_v (ov_move rfl) rfl rfl rfl ?_
                      refine wl_if (ov_lss rfl rfl) rfl rfl rfl (fun c83 => ?_) (fun c83 => ?_)
                      ·
                        first | (exfalso; omega) | exact absurd rfl c83 | exact absurd (by simp) c83 | (exfalso; simp at c83; omega) | exact absurd ⟨rfl, rfl⟩ c83
                      ·
                        refine wl_nil ?_
                        refine ce_then ?_
                        refine cw_false rfl ?_
                        refine cw_skip ?_
                        refine ce_then ?_
                        refine cw_seq ?_
                        refine cw_seq ?_
                        refine cw_region ?_
                        refine wl_v (ov_move rfl) rfl rfl rfl ?_
                        refine wl_v (ov_move rfl) rfl rfl rfl ?_
                        refine wl_if (ov_neq rfl rfl) rfl rfl rfl (fun c86 => ?_) (fun c86 => ?_)
                        ·
                          first | (exfalso; omega) | exact absurd rfl c86 | exact absurd (by simp) c86 | (exfalso; simp at c86; omega) | exact absurd ⟨rfl, rfl⟩ c86
                        ·
                          refine wl_nil ?_
                          refine ce_then ?_
                          refine cw_false rfl ?_
                          refine cw_skip ?_
                          refine ce_then ?_
                          refine cw_seq ?_
                          refine cw_region ?_
                          refine wl_v (ov_assign rfl) rfl rfl rfl ?_
                          refine wl_nil ?_
                          refine ce_then ?_
                          refine cw_ret ?_
                          refine ce_results (v := .bool true) (res1 rfl (rv_t rfl)) (fun w' hw => ?_)
                          exact ⟨rfl, (Keep.nil.ss hw).to_new⟩
                    ·
                      first | (exfalso; omega) | exact absurd rfl c77 | exact absurd (by simp) c77 | (exfalso; simp at c77; omega) | exact absurd ⟨rfl, rfl⟩ c77
              ·
                first | (exfalso; omega) | exact absurd rfl c56 | exact absurd (by simp) c56 | (exfalso; simp at c56; omega) | exact absurd ⟨rfl, rfl⟩ c56
          ·
            first | (exfalso; omega) | exact absurd rfl c43 | exact absurd (by simp) c43 | (exfalso; simp at c43; omega) | exact absurd ⟨rfl, rfl⟩ c43
        ·
          first | (exfalso; omega) | exact absurd rfl c38 | exact absurd (by simp) c38 | (exfalso; simp at c38; omega) | exact absurd ⟨rfl, rfl⟩ c38
      ·
        first | (exfalso; omega) | exact absurd rfl c33 | exact absurd (by simp) c33 | (exfalso; simp at c33; omega) | exact absurd ⟨rfl, rfl⟩ c33
end Go.Proofs.Ytlmohafmpgpnaaa.LFnExactGaleSlacks
