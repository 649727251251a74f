/- Walks of functions of the given program: each returns what its Lean function says and leaves the memory that was there as it was. Conditions: those of each theorem. -/
import Derived.Test.YtnnoggjcdhkfbaaSy
import Derived.Test.YtnnoggjcdhkfbaaProg
import Derived.Test.YtnnoggjcdhkfbaaPl
import Derived.Test.YtnnoggjcdhkfbaaPo
import Derived.Test.YtnnoggjcdhkfbaaT
import Derived.Test.YtnnoggjcdhkfbaaW1
import Derived.Test.YtnnoggjcdhkfbaaW2
import Derived.Test.YtnnoggjcdhkfbaaW3
import Derived.KernelRfl
namespace Go.Proofs.Ytnnoggjcdhkfbaa.W4
open Go.Sx Go.RowKit Go.Proofs.Ytnnoggjcdhkfbaa.T Go.Proofs.Ytnnoggjcdhkfbaa.W1 Go.Proofs.Ytnnoggjcdhkfbaa.W2 Go.Proofs.Ytnnoggjcdhkfbaa.W3
open Go.Plain
set_option maxRecDepth 100000 in
theorem FnExactLayOff_c (w : World) (A : Option Addr) (n : Nat) (c : Nat) (xs : List (Int)) (v : Int) (hA : At w A (cells fI xs)) (eA : xs.length = n) (lA : n ≤ c) : Calls Try.prog 6 #[.slice A (n) (c), .int .i64 (v)] w (Ret fun rv w' => rv = .bool true ∧ New w w' []) := by
  have oA := hA.atB
  subst eA
  refine fn_enter (args := [.slice A (xs.length) (c), .int .i64 (v)]) Try.func6 rfl Try.ntmps6 rfl (SS.start w) ?_
  refine cw_seq ?_
  refine cw_region ?_
  refine wl_v (ov_assign rfl) rfl rfl rfl ?_
  refine wl_nil ?_
  refine ce_then ?_
  refine cw_seq ?_
  refine cw_seq ?_
  refine cw_region ?_
  refine wl_v (ov_move rfl) rfl rfl rfl ?_
  refine wl_v (ov_len (sliceI_spec sI26) rfl) rfl rfl rfl ?_
  refine wl_if (ov_gtr rfl rfl) rfl rfl rfl (fun c17 => ?_) (fun c17 => ?_)
  ·
    refine wl_nil ?_
    refine ce_then ?_
    refine cw_true rfl ?_
    refine cw_seq ?_
    refine cw_region ?_
    refine wl_v (ov_assign rfl) rfl rfl rfl ?_
    refine wl_nil ?_
    refine ce_then ?_
    refine cw_ret ?_
    refine ce_then_ret ?_
    refine ce_results (v := .bool true) (res1 rfl (rv_t rfl)) (fun w' hw => ?_)
    exact ⟨rfl, (Keep.nil.ss hw).to_new⟩
  ·
    refine wl_nil ?_
    refine ce_then ?_
    refine cw_false rfl ?_
    refine cw_skip ?_
    refine ce_then ?_
    refine cw_seq ?_
    refine cw_region ?_
    refine wl_v (ov_move rfl) rfl rfl rfl ?_
    refine wl_r (or_call (fv := []) (vs := [.slice A (xs.length) (c)]) (cs := []) en18 rfl rfl (call_x1 (fun w hw => toIntS_c w A xs.length c xs ((holds_old oA) w hw) rfl lA (by first | assumption | omega | (simp; omega))))) rfl rfl (kt1p rfl (fun g_20 h_20 => ?_))
    refine wl_v (ov_move rfl) rfl rfl rfl ?_
    refine wl_r (or_call (fv := []) (vs := [.slice (some ⟨g_20, 0, none⟩) (xs.length) (xs.length), .int .i64 (v)]) (cs := []) en23 rfl rfl (call_x2 (fun w hw => LayOffS_c w (some ⟨g_20, 0, none⟩) xs.length xs.length xs v ((holds_row (List.Mem.head _)) w hw) rfl (Nat.le_refl _) (by first | assumption | omega | (simp; omega))))) rfl rfl (kt2p rfl (fun A2_22 c2_22 h_22 => ?_))
    refine wl_v (ov_move rfl) rfl rfl rfl ?_
    refine wl_v (ov_extract rfl rfl) rfl rfl rfl ?_
    refine wl_v (ov_extract rfl rfl) rfl rfl rfl ?_
    refine wl_v (ov_assign rfl) rfl rfl rfl ?_
    refine wl_v (ov_assign rfl) rfl rfl rfl ?_
    refine wl_nil ?_
    refine ce_then ?_
    refine cw_seq ?_
    have hll := laySpec_len xs v
    have hll2 : (layImpl xs v).1.length ≤ 7 := by rw [layEq]; exact hll
    refine cw_region ?_
    refine wl_v (ov_move rfl) rfl rfl rfl ?_
    refine wl_r (or_call (fv := []) (vs := [.slice A (xs.length) (c)]) (cs := []) en18 rfl rfl (call_x1 (fun w hw => toIntS_c w A xs.length c xs ((holds_old oA) w hw) rfl lA (by first | assumption | omega | (simp; omega))))) rfl rfl (kt1p rfl (fun g_26 h_26 => ?_))
    refine wl_v (ov_assign rfl) rfl rfl rfl ?_
    refine wl_nil ?_
    refine ce_then ?_
    refine cw_seq ?_
    refine cw_region ?_
    refine wl_v (ov_move rfl) rfl rfl rfl ?_
    refine wl_v (ov_move rfl) rfl rfl rfl ?_
    refine wl_r (or_call (fv := []) (vs := [.slice (some ⟨g_26, 0, none⟩) (xs.length) (xs.length), .int .i64 (v)]) (cs := []) en24 rfl rfl (call_x3 (fun w hw => LayOffI_c w (some ⟨g_26, 0, none⟩) xs.length xs.length xs v ((holds_row (List.Mem.head _)) w hw) rfl (Nat.le_refl _) (by first | assumption | omega | (simp; omega))))) rfl rfl (kt3p rfl (fun A2_30 c2_30 c3_30 h_30 => ?_))
    refine wl_v (ov_move rfl) rfl rfl rfl ?_
    refine wl_v (ov_extract rfl rfl) rfl rfl rfl ?_
    refine wl_v (ov_extract rfl rfl) rfl rfl rfl ?_
    refine wl_v (ov_assign rfl) rfl rfl rfl ?_
    refine wl_v (ov_assign rfl) rfl rfl rfl ?_
    refine wl_nil ?_
    refine ce_then ?_
    refine cw_seq ?_
    refine cw_seq ?_
    refine cw_region ?_
    refine wl_v (ov_move rfl) rfl rfl rfl ?_
    refine wl_v (ov_move rfl) rfl rfl rfl ?_
    refine wl_r (or_call (fv := []) (vs := [.slice A2_30 ((layImpl xs v).1.length) (c2_30), .slice A2_22 ((laySpec xs v).1.length) (c2_22)]) (cs := []) en12 rfl rfl (call_v (fun w hw => eqIntS_c w A2_30 ((layImpl xs v).1.length) c2_30 ((layImpl xs v).1) A2_22 ((laySpec xs v).1.length) c2_22 ((laySpec xs v).1) ((holds_row (List.Mem.head _)) w hw) rfl h_30 ((holds_row (List.Mem.tail _ (List.Mem.tail _ (List.Mem.head _)))) w hw) rfl h_22 (by first | assumption | omega | (simp; omega))))) rfl rfl (kt_if rfl (fun c35 => ?_) (fun c35 => ?_))
    ·
      refine wl_v (ov_not rfl) rfl rfl rfl ?_
      refine wl_v (ov_move rfl) rfl rfl rfl ?_
      refine wl_go rfl rfl ?_
      refine wl_v (ov_move rfl) rfl rfl rfl ?_
      refine wl_go rfl rfl ?_
      refine wl_v (ov_move rfl) rfl rfl rfl ?_
      refine wl_go rfl rfl ?_
      refine wl_if (OpV.dec (ov_neqb uI4 rfl rfl)) rfl rfl rfl (fun c40 => ?_) (fun c40 => ?_)
      ·
        exfalso; rw [layEq] at c40; simp at c40
      ·
        refine wl_v (ov_pick_f rfl rfl) rfl rfl rfl ?_
        refine wl_nil ?_
        refine ce_then ?_
        refine cw_false rfl ?_
        refine cw_skip ?_
        refine ce_then ?_
        refine cw_seq ?_
        refine cw_seq ?_
        refine cw_region ?_
        refine wl_v (ov_move rfl) rfl rfl rfl ?_
        refine wl_v (ov_move rfl) rfl rfl rfl ?_
        refine wl_r (or_call (fv := []) (vs := [.slice A (xs.length) (c)]) (cs := []) en18 rfl rfl (call_x1 (fun w hw => toIntS_c w A xs.length c xs ((holds_old oA) w hw) rfl lA (by first | assumption | omega | (simp; omega))))) rfl rfl (kt1p rfl (fun g_44 h_44 => ?_))
        refine wl_r (or_call (fv := []) (vs := [.slice (some ⟨g_26, 0, none⟩) (xs.length) (xs.length), .slice (some ⟨g_44, 0, none⟩) (xs.length) (xs.length)]) (cs := []) en12 rfl rfl (call_v (fun w hw => eqIntS_c w (some ⟨g_26, 0, none⟩) xs.length xs.length xs (some ⟨g_44, 0, none⟩) xs.length xs.length xs ((holds_row (List.Mem.tail _ (List.Mem.tail _ (List.Mem.head _)))) w hw) rfl (Nat.le_refl _) ((holds_row (List.Mem.head _)) w hw) rfl (Nat.le_refl _) (by first | assumption | omega | (simp; omega))))) rfl rfl (kt_if rfl (fun c45 => ?_) (fun c45 => ?_))
        ·
          refine wl_v (ov_not rfl) rfl rfl rfl ?_
          refine wl_nil ?_
          refine ce_then ?_
          refine cw_false rfl ?_
          refine cw_skip ?_
          refine ce_then ?_
          refine cw_seq ?_
          refine cw_region ?_
          refine wl_v (ov_assign rfl) rfl rfl rfl ?_
          refine wl_nil ?_
          refine ce_then ?_
          refine cw_seq ?_
          refine cw_region ?_
          refine wl_v (ov_move rfl) rfl rfl rfl ?_
          refine wl_v (ov_move rfl) rfl rfl rfl ?_
          refine wl_r (or_call (fv := []) (vs := [.slice (some ⟨g_26, 0, none⟩) (xs.length) (xs.length), .int .i64 (1)]) (cs := []) en15 rfl rfl (call_m (.tail (.tail .head)) (fun w hw => markIntS_c w _ _ _ (some ⟨g_26, 0, none⟩) xs.length xs.length xs.length xs 1 rfl (Nat.le_refl _) (by first | assumption | omega | (simp; omega)) (by first | assumption | omega | (simp; omega)) hw))) rfl rfl (kt0 rfl ?_)
          refine wl_v (ov_assign rfl) rfl rfl rfl ?_
          refine wl_nil ?_
          refine ce_then ?_
          refine cw_seq ?_
          refine cw_seq ?_
          refine cw_region ?_
          refine wl_v (ov_move rfl) rfl rfl rfl ?_
          refine wl_if (ov_lss rfl rfl) rfl rfl rfl (fun c51 => ?_) (fun c51 => ?_)
          ·
            exfalso; omega
          ·
            refine wl_v (ov_move rfl) rfl rfl rfl ?_
            refine wl_go rfl rfl ?_
            refine wl_v (ov_move rfl) rfl rfl rfl ?_
            refine wl_go rfl rfl ?_
            refine wl_v (ov_move rfl) rfl rfl rfl ?_
            refine wl_go rfl rfl ?_
            refine wl_r (or_call (fv := []) (vs := [.slice A2_30 ((layImpl xs v).1.length) (c2_30), .slice A2_22 ((laySpec xs v).1.length) (c2_22)]) (cs := []) en12 rfl rfl (call_v (fun w hw => eqIntS_c w A2_30 ((layImpl xs v).1.length) c2_30 ((layImpl xs v).1) A2_22 ((laySpec xs v).1.length) c2_22 ((laySpec xs v).1) ((holds_row (List.Mem.tail _ (List.Mem.tail _ (List.Mem.head _)))) w hw) rfl h_30 ((holds_row (List.Mem.tail _ (List.Mem.tail _ (List.Mem.tail _ (List.Mem.head _))))) w hw) rfl h_22 (by first | assumption | omega | (simp; omega))))) rfl rfl (kt_if rfl (fun c55 => ?_) (fun c55 => ?_))
            ·
              refine wl_go rfl rfl ?_
              refine wl_v (ov_not rfl) rfl rfl rfl ?_
              refine wl_v (ov_pick_f rfl rfl) rfl rfl rfl ?_
              refine wl_v (ov_move rfl) rfl rfl rfl ?_
              refine wl_go rfl rfl ?_
              refine wl_v (ov_move rfl) rfl rfl rfl ?_
              refine wl_go rfl rfl ?_
              refine wl_v (ov_move rfl) rfl rfl rfl ?_
              refine wl_go rfl rfl ?_
              refine wl_if (OpV.dec (ov_neqb uI4 rfl rfl)) rfl rfl rfl (fun c61 => ?_) (fun c61 => ?_)
              ·
                exfalso; rw [layEq] at c61; simp at c61
              ·
                refine wl_v (ov_pick_f rfl rfl) rfl rfl rfl ?_
                refine wl_nil ?_
                refine ce_then ?_
                refine cw_false rfl ?_
                refine cw_skip ?_
                refine ce_then ?_
                refine cw_seq ?_
                refine cw_region ?_
                refine wl_v (ov_assign rfl) rfl rfl rfl ?_
                refine wl_nil ?_
                refine ce_then ?_
                refine cw_seq ?_
                refine cw_region ?_
                refine wl_v (ov_move rfl) rfl rfl rfl ?_
                refine wl_v (ov_move rfl) rfl rfl rfl ?_
                refine wl_r (or_call (fv := []) (vs := [.slice A2_30 ((layImpl xs v).1.length) (c2_30), .int .i64 (1)]) (cs := []) en15 rfl rfl (call_m (.tail (.tail .head)) (fun w hw => markIntS_c w _ _ _ A2_30 ((layImpl xs v).1.length) c3_30 c2_30 ((layImpl xs v).1) 1 rfl h_30 (by first | assumption | omega | (simp; omega)) (by first | assumption | omega | (simp; omega)) hw))) rfl rfl (kt0 rfl ?_)
                refine wl_v (ov_assign rfl) rfl rfl rfl ?_
                refine wl_nil ?_
                refine ce_then ?_
                refine cw_seq ?_
                refine cw_region ?_
                refine wl_v (ov_assign rfl) rfl rfl rfl ?_
                refine wl_nil ?_
                refine ce_then ?_
                refine cw_seq ?_
                refine cw_region ?_
                refine wl_v (ov_move rfl) rfl rfl rfl ?_
                refine wl_v (ov_move rfl) rfl rfl rfl ?_
                refine wl_r (or_call (fv := []) (vs := [.slice A2_30 ((layImpl xs v).1.length) (c2_30), .int .i64 (1)]) (cs := []) en16 rfl rfl (call_v (fun w hw => heldIntS_c w A2_30 ((layImpl xs v).1.length) c2_30 (marks 1 ((layImpl xs v).1.length)) 1 ((holds_row (List.Mem.head _)) w hw) (marks_length _ _) h_30 (by rw [marks_length]; omega) (by first | assumption | omega | (simp; omega))))) rfl rfl (kt0 rfl ?_)
                refine wl_v (ov_assign rfl) rfl rfl rfl ?_
                refine wl_nil ?_
                refine ce_then ?_
                refine cw_seq ?_
                refine cw_seq ?_
                refine cw_region ?_
                refine wl_v (ov_move rfl) rfl rfl rfl ?_
                refine wl_if (ov_lss rfl rfl) rfl rfl rfl (fun c70 => ?_) (fun c70 => ?_)
                ·
                  exfalso; simp at c70; omega
                ·
                  refine wl_nil ?_
                  refine ce_then ?_
                  refine cw_false rfl ?_
                  refine cw_skip ?_
                  refine ce_then ?_
                  refine cw_seq ?_
                  refine cw_seq ?_
                  refine cw_region ?_
                  refine wl_v (ov_move rfl) rfl rfl rfl ?_
                  refine wl_v (ov_move rfl) rfl rfl rfl ?_
                  refine wl_if (ov_neq rfl rfl) rfl rfl rfl (fun c73 => ?_) (fun c73 => ?_)
                  ·
                    exact absurd (by simp) c73
                  ·
                    refine wl_nil ?_
                    refine ce_then ?_
                    refine cw_false rfl ?_
                    refine cw_skip ?_
                    refine ce_then ?_
                    refine cw_seq ?_
                    refine cw_region ?_
                    refine wl_v (ov_move rfl) rfl rfl rfl ?_
                    refine wl_r (or_call (fv := []) (vs := [.slice A (xs.length) (c)]) (cs := []) en18 rfl rfl (call_x1 (fun w hw => toIntS_c w A xs.length c xs ((holds_old oA) w hw) rfl lA (by first | assumption | omega | (simp; omega))))) rfl rfl (kt1p rfl (fun g_76 h_76 => ?_))
                    refine wl_v (ov_move rfl) rfl rfl rfl ?_
                    refine wl_r (or_call (fv := []) (vs := [.slice (some ⟨g_76, 0, none⟩) (xs.length) (xs.length), .int .i64 (v)]) (cs := []) en24 rfl rfl (call_x3 (fun w hw => LayOffI_c w (some ⟨g_76, 0, none⟩) xs.length xs.length xs v ((holds_row (List.Mem.head _)) w hw) rfl (Nat.le_refl _) (by first | assumption | omega | (simp; omega))))) rfl rfl (kt3p rfl (fun A2_78 c2_78 c3_78 h_78 => ?_))
                    refine wl_v (ov_move rfl) rfl rfl rfl ?_
                    refine wl_v (ov_extract rfl rfl) rfl rfl rfl ?_
                    refine wl_v (ov_extract rfl rfl) rfl rfl rfl ?_
                    refine wl_v (ov_assign rfl) rfl rfl rfl ?_
                    refine wl_v (ov_assign rfl) rfl rfl rfl ?_
                    refine wl_nil ?_
                    refine ce_then ?_
                    refine cw_seq ?_
                    refine cw_seq ?_
                    refine cw_region ?_
                    refine wl_v (ov_move rfl) rfl rfl rfl ?_
                    refine wl_v (ov_move rfl) rfl rfl rfl ?_
                    refine wl_r (or_call (fv := []) (vs := [.slice A2_78 ((layImpl xs v).1.length) (c2_78), .slice A2_22 ((laySpec xs v).1.length) (c2_22)]) (cs := []) en12 rfl rfl (call_v (fun w hw => eqIntS_c w A2_78 ((layImpl xs v).1.length) c2_78 ((layImpl xs v).1) A2_22 ((laySpec xs v).1.length) c2_22 ((laySpec xs v).1) ((holds_row (List.Mem.head _)) w hw) rfl h_78 ((holds_row (List.Mem.tail _ (List.Mem.tail _ (List.Mem.tail _ (List.Mem.tail _ (List.Mem.tail _ (List.Mem.head _))))))) w hw) rfl h_22 (by first | assumption | omega | (simp; omega))))) rfl rfl (kt_if rfl (fun c83 => ?_) (fun c83 => ?_))
                    ·
                      refine wl_v (ov_not rfl) rfl rfl rfl ?_
                      refine wl_v (ov_move rfl) rfl rfl rfl ?_
                      refine wl_go rfl rfl ?_
                      refine wl_v (ov_move rfl) rfl rfl rfl ?_
                      refine wl_go rfl rfl ?_
                      refine wl_v (ov_move rfl) rfl rfl rfl ?_
                      refine wl_go rfl rfl ?_
                      refine wl_if (OpV.dec (ov_neqb uI4 rfl rfl)) rfl rfl rfl (fun c88 => ?_) (fun c88 => ?_)
                      ·
                        exfalso; rw [layEq] at c88; simp at c88
                      ·
                        refine wl_v (ov_pick_f rfl rfl) rfl rfl rfl ?_
                        refine wl_nil ?_
                        refine ce_then ?_
                        refine cw_false rfl ?_
                        refine cw_skip ?_
                        refine ce_then ?_
                        refine cw_seq ?_
                        refine cw_region ?_
                        refine wl_v (ov_assign rfl) rfl rfl rfl ?_
                        refine wl_nil ?_
                        refine ce_then ?_
                        refine cw_seq ?_
                        refine cw_region ?_
                        refine wl_v (ov_move rfl) rfl rfl rfl ?_
                        refine wl_v (ov_move rfl) rfl rfl rfl ?_
                        refine wl_r (or_call (fv := []) (vs := [.slice A2_30 ((layImpl xs v).1.length) (c2_30), .int .i64 (1)]) (cs := []) en16 rfl rfl (call_v (fun w hw => heldIntS_c w A2_30 ((layImpl xs v).1.length) c2_30 (marks 1 ((layImpl xs v).1.length)) 1 ((holds_row (List.Mem.tail _ (List.Mem.tail _ (List.Mem.head _)))) w hw) (marks_length _ _) h_30 (by rw [marks_length]; omega) (by first | assumption | omega | (simp; omega))))) rfl rfl (kt0 rfl ?_)
                        refine wl_v (ov_assign rfl) rfl rfl rfl ?_
                        refine wl_nil ?_
                        refine ce_then ?_
                        refine cw_seq ?_
                        refine cw_seq ?_
                        refine cw_region ?_
                        refine wl_v (ov_move rfl) rfl rfl rfl ?_
                        refine wl_if (ov_lss rfl rfl) rfl rfl rfl (fun c94 => ?_) (fun c94 => ?_)
                        ·
                          exfalso; simp at c94; omega
                        ·
                          refine wl_nil ?_
                          refine ce_then ?_
                          refine cw_false rfl ?_
                          refine cw_skip ?_
                          refine ce_then ?_
                          refine cw_seq ?_
                          refine cw_seq ?_
                          refine cw_region ?_
                          refine wl_v (ov_move rfl) rfl rfl rfl ?_
                          refine wl_v (ov_move rfl) rfl rfl rfl ?_
                          refine wl_if (ov_neq rfl rfl) rfl rfl rfl (fun c97 => ?_) (fun c97 => ?_)
                          ·
                            exact absurd (by simp) c97
                          ·
                            refine wl_nil ?_
                            refine ce_then ?_
                            refine cw_false rfl ?_
                            refine cw_skip ?_
                            refine ce_then ?_
                            refine cw_seq ?_
                            refine cw_region ?_
                            refine wl_v (ov_assign rfl) rfl rfl rfl ?_
                            refine wl_nil ?_
                            refine ce_then ?_
                            refine cw_ret ?_
                            refine ce_results (v := .bool true) (res1 rfl (rv_t rfl)) (fun w' hw => ?_)
                            exact ⟨rfl, (Keep.nil.ss hw).to_new⟩
                    ·
                      exact absurd (by rw [layEq]) c83
            ·
              exact absurd (by rw [layEq]) c55
        ·
          exact absurd rfl c45
    ·
      exact absurd (by rw [layEq]) c35
end Go.Proofs.Ytnnoggjcdhkfbaa.W4
