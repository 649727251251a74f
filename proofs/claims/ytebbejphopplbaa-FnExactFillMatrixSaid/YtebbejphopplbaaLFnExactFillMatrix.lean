/- Walks of functions of the given program: each returns what its Lean function says and leaves the memory that was there as it was. Conditions: those of each theorem. -/
import Derived.Test.YtebbejphopplbaaSm
import Derived.Test.YtebbejphopplbaaProg
import Derived.Test.YtebbejphopplbaaPl
import Derived.Test.YtebbejphopplbaaPo
import Derived.Test.YtebbejphopplbaaPd
import Derived.Test.YtebbejphopplbaaPe
import Derived.Test.YtebbejphopplbaaPh
import Derived.Test.YtebbejphopplbaaPm
import Derived.Test.YtebbejphopplbaaPc
import Derived.Test.YtebbejphopplbaaPs
import Derived.Test.YtebbejphopplbaaPt
import Derived.Test.YtebbejphopplbaaPu
import Derived.Test.YtebbejphopplbaaPv
import Derived.Test.YtebbejphopplbaaT
import Derived.Test.YtebbejphopplbaaW2
import Derived.Test.YtebbejphopplbaaW32
import Derived.Test.YtebbejphopplbaaW33
import Derived.KernelRfl
namespace Go.Proofs.Ytebbejphopplbaa.LFnExactFillMatrix
open Go.Sx Go.RowKit Go.Proofs.Ytebbejphopplbaa.T Go.Proofs.Ytebbejphopplbaa.W2 Go.Proofs.Ytebbejphopplbaa.W32 Go.Proofs.Ytebbejphopplbaa.W33
open Go.Plain
set_option linter.unusedVariables false
set_option maxRecDepth 100000 in
theorem FnExactFillMatrix_c (w : World) (A : Option Addr) (n : Nat) (c : Nat) (xs : List (Int)) (A2 : Option Addr) (n2 : Nat) (c2 : Nat) (ys : List (Int)) (hA : At w A (cells fI xs)) (eA : xs.length = n) (lA : n ≤ c) (hA2 : At w A2 (cells fI ys)) (eA2 : ys.length = n2) (lA2 : n2 ≤ c2) : Calls Try.prog 7 #[.slice A (n) (c), .slice A2 (n2) (c2)] w (Ret fun rv w' => rv = .bool true ∧ New w w' []) := by
  have oA := hA.atB
  subst eA
  have oA2 := hA2.atB
  subst eA2
  have hll := fillV_len xs ys
  have hfr := fillV_rows xs ys
  have hmf := mark_facts (m := (fillV xs ys).1) (by omega) (fun q hq => by have := hfr q hq; omega)
  obtain ⟨hm1, hm2, hm3, hm4, hm5, hm6, hm7, hm8⟩ := hmf
  refine fn_enter (args := [.slice A (xs.length) (c), .slice A2 (ys.length) (c2)]) Try.func7 rfl Try.ntmps7 rfl (SS.start w) ?_
  refine cw_seq ?_
  refine cw_region ?_
  refine wl_v (ov_assign rfl) rfl rfl rfl ?_
  refine wl_nil ?_
  refine ce_then ?_
  refine cw_seq ?_
  refine cw_seq ?_
  refine cw_region ?_
  refine wl_v (ov_move rfl) rfl rfl rfl ?_
  refine wl_v (ov_len (sliceI_spec sI26) rfl) rfl rfl rfl ?_
  refine wl_if (ov_gtr rfl rfl) rfl rfl rfl (fun c18 => ?_) (fun c18 => ?_)
  ·
    refine wl_nil ?_
    refine ce_then ?_
    refine cw_true rfl ?_
    refine cw_seq ?_
    refine cw_region ?_
    refine wl_v (ov_assign rfl) rfl rfl rfl ?_
    refine wl_nil ?_
    refine ce_then ?_
    refine cw_ret ?_
    refine ce_then_ret ?_
    refine ce_results (v := .bool true) (res1 rfl (rv_t rfl)) (fun w' hw => ?_)
    exact ⟨rfl, (Keep.nil.ss hw).to_new⟩
  ·
    refine wl_nil ?_
    refine ce_then ?_
    refine cw_false rfl ?_
    refine cw_skip ?_
    refine ce_then ?_
    refine cw_seq ?_
    refine cw_seq ?_
    refine cw_region ?_
    refine wl_v (ov_move rfl) rfl rfl rfl ?_
    refine wl_v (ov_len (sliceI_spec sI26) rfl) rfl rfl rfl ?_
    refine wl_if (ov_gtr rfl rfl) rfl rfl rfl (fun c21 => ?_) (fun c21 => ?_)
    ·
      refine wl_nil ?_
      refine ce_then ?_
      refine cw_true rfl ?_
      refine cw_seq ?_
      refine cw_region ?_
      refine wl_v (ov_assign rfl) rfl rfl rfl ?_
      refine wl_nil ?_
      refine ce_then ?_
      refine cw_ret ?_
      refine ce_then_ret ?_
      refine ce_results (v := .bool true) (res1 rfl (rv_t rfl)) (fun w' hw => ?_)
      exact ⟨rfl, (Keep.nil.ss hw).to_new⟩
    ·
      refine wl_nil ?_
      refine ce_then ?_
      refine cw_false rfl ?_
      refine cw_skip ?_
      refine ce_then ?_
      refine cw_seq ?_
      refine cw_region ?_
      refine wl_v (ov_move rfl) rfl rfl rfl ?_
      refine wl_r (or_call (fv := []) (vs := [.slice A (xs.length) (c)]) (cs := []) en18 rfl rfl (call_x1 (fun w hw => toIntS_c w A xs.length c xs ((holds_old oA) w hw) rfl lA (by first | assumption | omega | (simp; omega))))) rfl rfl (kt1p rfl (fun g_24 h_24 => ?_))
      refine wl_v (ov_move rfl) rfl rfl rfl ?_
      refine wl_r (or_call (fv := []) (vs := [.slice A2 (ys.length) (c2)]) (cs := []) en18 rfl rfl (call_x1 (fun w hw => toIntS_c w A2 ys.length c2 ys ((holds_old oA2) w hw) rfl lA2 (by first | assumption | omega | (simp; omega))))) rfl rfl (kt1p rfl (fun g_26 h_26 => ?_))
      refine wl_r (or_call (fv := []) (vs := [.slice (some ⟨g_24, 0, none⟩) (xs.length) (xs.length), .slice (some ⟨g_26, 0, none⟩) (ys.length) (ys.length)]) (cs := []) en26 rfl rfl (call_x4 (fun w hw => FillS_c w (some ⟨g_24, 0, none⟩) xs.length xs.length xs (some ⟨g_26, 0, none⟩) ys.length ys.length ys ((holds_row (List.Mem.tail _ (List.Mem.head _))) w hw) rfl (Nat.le_refl _) ((holds_row (List.Mem.head _)) w hw) rfl (Nat.le_refl _) (by first | assumption | omega | (simp; omega))))) rfl rfl (kt4p rfl (fun A2_27 k2_27 c2_27 hs2_27 h_27 => ?_))
      refine wl_v (ov_move rfl) rfl rfl rfl ?_
      refine wl_v (ov_extract rfl rfl) rfl rfl rfl ?_
      refine wl_v (ov_extract rfl rfl) rfl rfl rfl ?_
      refine wl_v (ov_assign rfl) rfl rfl rfl ?_
      refine wl_v (ov_assign rfl) rfl rfl rfl ?_
      refine wl_nil ?_
      refine ce_then ?_
      refine cw_seq ?_
      refine cw_region ?_
      refine wl_v (ov_move rfl) rfl rfl rfl ?_
      refine wl_r (or_call (fv := []) (vs := [.slice A (xs.length) (c)]) (cs := []) en18 rfl rfl (call_x1 (fun w hw => toIntS_c w A xs.length c xs ((holds_old oA) w hw) rfl lA (by first | assumption | omega | (simp; omega))))) rfl rfl (kt1p rfl (fun g_31 h_31 => ?_))
      refine wl_v (ov_assign rfl) rfl rfl rfl ?_
      refine wl_nil ?_
      refine ce_then ?_
      refine cw_seq ?_
      refine cw_region ?_
      refine wl_v (ov_move rfl) rfl rfl rfl ?_
      refine wl_r (or_call (fv := []) (vs := [.slice A2 (ys.length) (c2)]) (cs := []) en18 rfl rfl (call_x1 (fun w hw => toIntS_c w A2 ys.length c2 ys ((holds_old oA2) w hw) rfl lA2 (by first | assumption | omega | (simp; omega))))) rfl rfl (kt1p rfl (fun g_33 h_33 => ?_))
      refine wl_v (ov_assign rfl) rfl rfl rfl ?_
      refine wl_nil ?_
      refine ce_then ?_
      refine cw_seq ?_
      refine cw_region ?_
      refine wl_v (ov_move rfl) rfl rfl rfl ?_
      refine wl_v (ov_move rfl) rfl rfl rfl ?_
      refine wl_r (or_call (fv := []) (vs := [.slice (some ⟨g_31, 0, none⟩) (xs.length) (xs.length), .slice (some ⟨g_33, 0, none⟩) (ys.length) (ys.length)]) (cs := []) en27 rfl rfl (call_x4 (fun w hw => FillI_c w (some ⟨g_31, 0, none⟩) xs.length xs.length xs (some ⟨g_33, 0, none⟩) ys.length ys.length ys ((holds_row (List.Mem.tail _ (List.Mem.head _))) w hw) rfl (Nat.le_refl _) ((holds_row (List.Mem.head _)) w hw) rfl (Nat.le_refl _) (by first | assumption | omega | (simp; omega))))) rfl rfl (kt4p rfl (fun A2_37 k2_37 c2_37 hs2_37 h_37 => ?_))
      refine wl_v (ov_move rfl) rfl rfl rfl ?_
      refine wl_v (ov_extract rfl rfl) rfl rfl rfl ?_
      refine wl_v (ov_extract rfl rfl) rfl rfl rfl ?_
      refine wl_v (ov_assign rfl) rfl rfl rfl ?_
      refine wl_v (ov_assign rfl) rfl rfl rfl ?_
      refine wl_nil ?_
      refine ce_then ?_
      refine cw_seq ?_
      refine cw_seq ?_
      refine cw_region ?_
      refine wl_v (ov_move rfl) rfl rfl rfl ?_
      refine wl_v (ov_move rfl) rfl rfl rfl ?_
      refine ct_fact (nest_facts (List.Mem.tail _ (List.Mem.head _))) (fun hnfns_37_1 => ?_)
      have hnfns_37_1l := hnfns_37_1.1
      refine ct_fact (nest_facts (List.Mem.tail _ (List.Mem.tail _ (List.Mem.tail _ (List.Mem.tail _ (List.Mem.tail _ (List.Mem.head _))))))) (fun hnfns_27_2 => ?_)
      have hnfns_27_2l := hnfns_27_2.1
      refine wl_r (or_call (fv := []) (vs := [.slice A2_37 ((fillV xs ys).1.length) (k2_37), .slice A2_27 ((fillV xs ys).1.length) (k2_27)]) (cs := []) en28 rfl rfl (call_v (fun w hw => eqIntSS_c w A2_37 ((fillV xs ys).1.length) k2_37 hs2_37 ((fillV xs ys).1) A2_27 ((fillV xs ys).1.length) k2_27 hs2_27 ((fillV xs ys).1) ((holds_row (List.Mem.head _)) w hw) rfl h_37 hnfns_37_1 ((mx_nest (List.Mem.tail _ (List.Mem.head _))) w hw) ((holds_row (List.Mem.tail _ (List.Mem.tail _ (List.Mem.tail _ (List.Mem.tail _ (List.Mem.head _)))))) w hw) rfl h_27 hnfns_27_2 ((mx_nest (List.Mem.tail _ (List.Mem.tail _ (List.Mem.tail _ (List.Mem.tail _ (List.Mem.tail _ (List.Mem.head _))))))) w hw) (by first | assumption | omega | (simp; omega))))) rfl rfl (kt_if rfl (fun c42 => ?_) (fun c42 => ?_))
      ·
        refine wl_v (ov_not rfl) rfl rfl rfl ?_
        refine wl_v (ov_move rfl) rfl rfl rfl ?_
        refine wl_go rfl rfl ?_
        refine wl_v (ov_move rfl) rfl rfl rfl ?_
        refine wl_go rfl rfl ?_
        refine wl_v (ov_move rfl) rfl rfl rfl ?_
        refine wl_go rfl rfl ?_
        refine wl_if (OpV.dec (ov_neqb uI4 rfl rfl)) rfl rfl rfl (fun c47 => ?_) (fun c47 => ?_)
        ·
          first | (exfalso; omega) | exact absurd rfl c47 | exact absurd (by simp) c47 | (exfalso; simp at c47; omega) | exact absurd ⟨rfl, rfl⟩ c47 | (simp at c47)
        ·
          refine wl_v (ov_pick_f rfl rfl) rfl rfl rfl ?_
          refine wl_nil ?_
          refine ce_then ?_
          refine cw_false rfl ?_
          refine cw_skip ?_
          refine ce_then ?_
          refine cw_seq ?_
          refine cw_seq ?_
          refine cw_region ?_
          refine wl_v (ov_move rfl) rfl rfl rfl ?_
          refine wl_v (ov_move rfl) rfl rfl rfl ?_
          refine wl_r (or_call (fv := []) (vs := [.slice A (xs.length) (c)]) (cs := []) en18 rfl rfl (call_x1 (fun w hw => toIntS_c w A xs.length c xs ((holds_old oA) w hw) rfl lA (by first | assumption | omega | (simp; omega))))) rfl rfl (kt1p rfl (fun g_51 h_51 => ?_))
          refine wl_r (or_call (fv := []) (vs := [.slice (some ⟨g_31, 0, none⟩) (xs.length) (xs.length), .slice (some ⟨g_51, 0, none⟩) (xs.length) (xs.length)]) (cs := []) en12 rfl rfl (call_v (fun w hw => eqIntS_c w (some ⟨g_31, 0, none⟩) xs.length xs.length xs (some ⟨g_51, 0, none⟩) xs.length xs.length xs ((holds_row (List.Mem.tail _ (List.Mem.tail _ (List.Mem.tail _ (List.Mem.tail _ (List.Mem.head _)))))) w hw) rfl (Nat.le_refl _) ((holds_row (List.Mem.head _)) w hw) rfl (Nat.le_refl _) (by first | assumption | omega | (simp; omega))))) rfl rfl (kt_if rfl (fun c52 => ?_) (fun c52 => ?_))
          ·
            refine wl_v (ov_not rfl) rfl rfl rfl ?_
            refine wl_nil ?_
            refine ce_then ?_
            refine cw_false rfl ?_
            refine cw_skip ?_
            refine ce_then ?_
            refine cw_seq ?_
            refine cw_seq ?_
            refine cw_region ?_
            refine wl_v (ov_move rfl) rfl rfl rfl ?_
            refine wl_v (ov_move rfl) rfl rfl rfl ?_
            refine wl_r (or_call (fv := []) (vs := [.slice A2 (ys.length) (c2)]) (cs := []) en18 rfl rfl (call_x1 (fun w hw => toIntS_c w A2 ys.length c2 ys ((holds_old oA2) w hw) rfl lA2 (by first | assumption | omega | (simp; omega))))) rfl rfl (kt1p rfl (fun g_56 h_56 => ?_))
            refine wl_r (or_call (fv := []) (vs := [.slice (some ⟨g_33, 0, none⟩) (ys.length) (ys.length), .slice (some ⟨g_56, 0, none⟩) (ys.length) (ys.length)]) (cs := []) en12 rfl rfl (call_v (fun w hw => eqIntS_c w (some ⟨g_33, 0, none⟩) ys.length ys.length ys (some ⟨g_56, 0, none⟩) ys.length ys.length ys ((holds_row (List.Mem.tail _ (List.Mem.tail _ (List.Mem.tail _ (List.Mem.tail _ (List.Mem.head _)))))) w hw) rfl (Nat.le_refl _) ((holds_row (List.Mem.head _)) w hw) rfl (Nat.le_refl _) (by first | assumption | omega | (simp; omega))))) rfl rfl (kt_if rfl (fun c57 => ?_) (fun c57 => ?_))
            ·
              refine wl_v (ov_not rfl) rfl rfl rfl ?_
              refine wl_nil ?_
              refine ce_then ?_
              refine cw_false rfl ?_
              refine cw_skip ?_
              refine ce_then ?_
              refine cw_seq ?_
              refine cw_region ?_
              refine wl_v (ov_assign rfl) rfl rfl rfl ?_
              refine wl_nil ?_
              refine ce_then ?_
              refine cw_seq ?_
              refine cw_region ?_
              refine wl_v (ov_move rfl) rfl rfl rfl ?_
              refine wl_v (ov_move rfl) rfl rfl rfl ?_
              refine wl_r (or_call (fv := []) (vs := [.slice (some ⟨g_31, 0, none⟩) (xs.length) (xs.length), .int .i64 (1)]) (cs := []) en15 rfl rfl (call_m (.tail (.tail (.tail (.tail (.tail .head))))) (fun w hw => markIntS_c w _ _ _ (some ⟨g_31, 0, none⟩) xs.length xs.length xs.length xs 1 rfl (Nat.le_refl _) (by first | assumption | omega | (simp; omega)) (by first | assumption | omega | (simp; omega)) hw))) rfl rfl (kt0 rfl ?_)
              refine wl_v (ov_assign rfl) rfl rfl rfl ?_
              refine wl_nil ?_
              refine ce_then ?_
              refine cw_seq ?_
              refine cw_region ?_
              refine wl_v (ov_move rfl) rfl rfl rfl ?_
              refine wl_v (ov_move rfl) rfl rfl rfl ?_
              refine wl_r (or_call (fv := []) (vs := [.slice (some ⟨g_33, 0, none⟩) (ys.length) (ys.length), .int .i64 (1 + xs.length)]) (cs := []) en15 rfl rfl (call_m (.tail (.tail (.tail (.tail (.tail .head))))) (fun w hw => markIntS_c w _ _ _ (some ⟨g_33, 0, none⟩) ys.length ys.length ys.length ys (1 + xs.length) rfl (Nat.le_refl _) (by first | assumption | omega | (simp; omega)) (by first | assumption | omega | (simp; omega)) hw))) rfl rfl (kt0 rfl ?_)
              refine wl_v (ov_assign rfl) rfl rfl rfl ?_
              refine wl_nil ?_
              refine ce_then ?_
              refine cw_seq ?_
              refine cw_seq ?_
              refine cw_region ?_
              refine wl_v (ov_move rfl) rfl rfl rfl ?_
              refine wl_if (ov_lss rfl rfl) rfl rfl rfl (fun c66 => ?_) (fun c66 => ?_)
              ·
                first | (exfalso; omega) | exact absurd rfl c66 | exact absurd (by simp) c66 | (exfalso; simp at c66; omega) | exact absurd ⟨rfl, rfl⟩ c66 | (simp at c66)
              ·
                refine wl_v (ov_move rfl) rfl rfl rfl ?_
                refine wl_go rfl rfl ?_
                refine wl_v (ov_move rfl) rfl rfl rfl ?_
                refine wl_go rfl rfl ?_
                refine wl_v (ov_move rfl) rfl rfl rfl ?_
                refine wl_go rfl rfl ?_
                refine ct_fact (nest_facts (List.Mem.tail _ (List.Mem.tail _ (List.Mem.tail _ (List.Mem.tail _ (List.Mem.tail _ (List.Mem.head _))))))) (fun hnfns_37_3 => ?_)
                have hnfns_37_3l := hnfns_37_3.1
                refine ct_fact (nest_facts (List.Mem.tail _ (List.Mem.tail _ (List.Mem.tail _ (List.Mem.tail _ (List.Mem.tail _ (List.Mem.tail _ (List.Mem.tail _ (List.Mem.head _))))))))) (fun hnfns_27_4 => ?_)
                have hnfns_27_4l := hnfns_27_4.1
                refine wl_r (or_call (fv := []) (vs := [.slice A2_37 ((fillV xs ys).1.length) (k2_37), .slice A2_27 ((fillV xs ys).1.length) (k2_27)]) (cs := []) en28 rfl rfl (call_v (fun w hw => eqIntSS_c w A2_37 ((fillV xs ys).1.length) k2_37 hs2_37 ((fillV xs ys).1) A2_27 ((fillV xs ys).1.length) k2_27 hs2_27 ((fillV xs ys).1) ((holds_row (List.Mem.tail _ (List.Mem.tail _ (List.Mem.tail _ (List.Mem.tail _ (List.Mem.head _)))))) w hw) rfl h_37 hnfns_37_3 ((mx_nest (List.Mem.tail _ (List.Mem.tail _ (List.Mem.tail _ (List.Mem.tail _ (List.Mem.tail _ (List.Mem.head _))))))) w hw) ((holds_row (List.Mem.tail _ (List.Mem.tail _ (List.Mem.tail _ (List.Mem.tail _ (List.Mem.tail _ (List.Mem.tail _ (List.Mem.head _)))))))) w hw) rfl h_27 hnfns_27_4 ((mx_nest (List.Mem.tail _ (List.Mem.tail _ (List.Mem.tail _ (List.Mem.tail _ (List.Mem.tail _ (List.Mem.tail _ (List.Mem.tail _ (List.Mem.head _))))))))) w hw) (by first | assumption | omega | (simp; omega))))) rfl rfl (kt_if rfl (fun c70 => ?_) (fun c70 => ?_))
                ·
                  refine wl_go rfl rfl ?_
                  refine wl_v (ov_not rfl) rfl rfl rfl ?_
                  refine wl_v (ov_pick_f rfl rfl) rfl rfl rfl ?_
                  refine wl_v (ov_move rfl) rfl rfl rfl ?_
                  refine wl_go rfl rfl ?_
                  refine wl_v (ov_move rfl) rfl rfl rfl ?_
                  refine wl_go rfl rfl ?_
                  refine wl_v (ov_move rfl) rfl rfl rfl ?_
                  refine wl_go rfl rfl ?_
                  refine wl_if (OpV.dec (ov_neqb uI4 rfl rfl)) rfl rfl rfl (fun c76 => ?_) (fun c76 => ?_)
                  ·
                    first | (exfalso; omega) | exact absurd rfl c76 | exact absurd (by simp) c76 | (exfalso; simp at c76; omega) | exact absurd ⟨rfl, rfl⟩ c76 | (simp at c76)
                  ·
                    refine wl_v (ov_pick_f rfl rfl) rfl rfl rfl ?_
                    refine wl_nil ?_
                    refine ce_then ?_
                    refine cw_false rfl ?_
                    refine cw_skip ?_
                    refine ce_then ?_
                    refine cw_seq ?_
                    refine cw_region ?_
                    refine wl_v (ov_assign rfl) rfl rfl rfl ?_
                    refine wl_nil ?_
                    refine ce_then ?_
                    refine cw_seq ?_
                    refine cw_region ?_
                    refine wl_v (ov_move rfl) rfl rfl rfl ?_
                    refine wl_v (ov_move rfl) rfl rfl rfl ?_
                    refine wl_r (or_call (fv := []) (vs := [.slice A2_37 ((fillV xs ys).1.length) (k2_37), .int .i64 (1)]) (cs := []) en29 rfl rfl (call_o (.cons (.tail (.tail (.tail (.tail .head)))) (.cons (.tail (.tail (.tail (.tail .head)))) (.cons (.head) (.cons (.head) (.cons (.head) (.cons (.head) (.cons (.head) (.cons (.head) (.cons (.head) (.cons (.head) (.nil))))))))))) (fun w hw => markIntSS_c w _ _ _ 1 A2_37 ((fillV xs ys).1.length) k2_37 c2_37 hs2_37 ((fillV xs ys).1) (by first | assumption | omega | (simp; omega)) (by first | assumption | omega | (simp; omega)) (by first | assumption | omega | (simp; omega)) (by first | assumption | omega | (simp; omega)) hw))) rfl rfl (kt0 rfl ?_)
                    refine wl_v (ov_assign rfl) rfl rfl rfl ?_
                    refine wl_nil ?_
                    refine ce_then ?_
                    refine cw_seq ?_
                    refine cw_region ?_
                    refine wl_v (ov_assign rfl) rfl rfl rfl ?_
                    refine wl_nil ?_
                    refine ce_then ?_
                    refine cw_seq ?_
                    refine cw_region ?_
                    refine wl_v (ov_move rfl) rfl rfl rfl ?_
                    refine wl_v (ov_move rfl) rfl rfl rfl ?_
                    refine ct_fact (nest_facts (List.Mem.tail _ (List.Mem.head _))) (fun hnfns_37_5 => ?_)
                    have hnfns_37_5l := hnfns_37_5.1
                    refine wl_r (or_call (fv := []) (vs := [.slice A2_37 ((fillV xs ys).1.length) (k2_37), .int .i64 (1)]) (cs := []) en30 rfl rfl (call_v (fun w hw => heldIntSS_c w A2_37 ((fillV xs ys).1.length) k2_37 hs2_37 (mkTo 1 ((fillV xs ys).1) ((fillV xs ys).1.length)) 1 ((holds_row (List.Mem.head _)) w hw) hm3 h_37 hnfns_37_5 ((mx_nest (List.Mem.tail _ (List.Mem.head _))) w hw) hm5 (by first | assumption | omega | (simp; omega)) (by first | assumption | omega | (simp; omega))))) rfl rfl (kt0 rfl ?_)
                    refine wl_v (ov_assign rfl) rfl rfl rfl ?_
                    refine wl_nil ?_
                    refine ce_then ?_
                    refine cw_seq ?_
                    refine cw_seq ?_
                    refine cw_region ?_
                    refine wl_v (ov_move rfl) rfl rfl rfl ?_
                    refine wl_if (ov_lss rfl rfl) rfl rfl rfl (fun c85 => ?_) (fun c85 => ?_)
                    ·
                      first | (exfalso; omega) | exact absurd rfl c85 | exact absurd (by simp) c85 | (exfalso; simp at c85; omega) | exact absurd ⟨rfl, rfl⟩ c85 | (simp at c85)
                    ·
                      refine wl_nil ?_
                      refine ce_then ?_
                      refine cw_false rfl ?_
                      refine cw_skip ?_
                      refine ce_then ?_
                      refine cw_seq ?_
                      refine cw_seq ?_
                      refine cw_region ?_
                      refine wl_v (ov_move rfl) rfl rfl rfl ?_
                      refine wl_v (ov_move rfl) rfl rfl rfl ?_
                      refine wl_if (ov_neq rfl rfl) rfl rfl rfl (fun c88 => ?_) (fun c88 => ?_)
                      ·
                        first | (exfalso; omega) | exact absurd rfl c88 | exact absurd (by simp) c88 | (exfalso; simp at c88; omega) | exact absurd ⟨rfl, rfl⟩ c88 | (simp at c88)
                      ·
                        refine wl_nil ?_
                        refine ce_then ?_
                        refine cw_false rfl ?_
                        refine cw_skip ?_
                        refine ce_then ?_
                        refine cw_seq ?_
                        refine cw_region ?_
                        refine wl_v (ov_move rfl) rfl rfl rfl ?_
                        refine wl_r (or_call (fv := []) (vs := [.slice A (xs.length) (c)]) (cs := []) en18 rfl rfl (call_x1 (fun w hw => toIntS_c w A xs.length c xs ((holds_old oA) w hw) rfl lA (by first | assumption | omega | (simp; omega))))) rfl rfl (kt1p rfl (fun g_91 h_91 => ?_))
                        refine wl_v (ov_move rfl) rfl rfl rfl ?_
                        refine wl_r (or_call (fv := []) (vs := [.slice A2 (ys.length) (c2)]) (cs := []) en18 rfl rfl (call_x1 (fun w hw => toIntS_c w A2 ys.length c2 ys ((holds_old oA2) w hw) rfl lA2 (by first | assumption | omega | (simp; omega))))) rfl rfl (kt1p rfl (fun g_93 h_93 => ?_))
                        refine wl_r (or_call (fv := []) (vs := [.slice (some ⟨g_91, 0, none⟩) (xs.length) (xs.length), .slice (some ⟨g_93, 0, none⟩) (ys.length) (ys.length)]) (cs := []) en27 rfl rfl (call_x4 (fun w hw => FillI_c w (some ⟨g_91, 0, none⟩) xs.length xs.length xs (some ⟨g_93, 0, none⟩) ys.length ys.length ys ((holds_row (List.Mem.tail _ (List.Mem.head _))) w hw) rfl (Nat.le_refl _) ((holds_row (List.Mem.head _)) w hw) rfl (Nat.le_refl _) (by first | assumption | omega | (simp; omega))))) rfl rfl (kt4p rfl (fun A2_94 k2_94 c2_94 hs2_94 h_94 => ?_))
                        refine wl_v (ov_move rfl) rfl rfl rfl ?_
                        refine wl_v (ov_extract rfl rfl) rfl rfl rfl ?_
                        refine wl_v (ov_extract rfl rfl) rfl rfl rfl ?_
                        refine wl_v (ov_assign rfl) rfl rfl rfl ?_
                        refine wl_v (ov_assign rfl) rfl rfl rfl ?_
                        refine wl_nil ?_
                        refine ce_then ?_
                        refine cw_seq ?_
                        refine cw_seq ?_
                        refine cw_region ?_
                        refine wl_v (ov_move rfl) rfl rfl rfl ?_
                        refine wl_v (ov_move rfl) rfl rfl rfl ?_
                        refine ct_fact (nest_facts (List.Mem.tail _ (List.Mem.head _))) (fun hnfns_94_6 => ?_)
                        have hnfns_94_6l := hnfns_94_6.1
                        refine ct_fact (nest_facts (List.Mem.tail _ (List.Mem.tail _ (List.Mem.tail _ (List.Mem.tail _ (List.Mem.tail _ (List.Mem.tail _ (List.Mem.tail _ (List.Mem.tail _ (List.Mem.tail _ (List.Mem.tail _ (List.Mem.tail _ (List.Mem.head _))))))))))))) (fun hnfns_27_7 => ?_)
                        have hnfns_27_7l := hnfns_27_7.1
                        refine wl_r (or_call (fv := []) (vs := [.slice A2_94 ((fillV xs ys).1.length) (k2_94), .slice A2_27 ((fillV xs ys).1.length) (k2_27)]) (cs := []) en28 rfl rfl (call_v (fun w hw => eqIntSS_c w A2_94 ((fillV xs ys).1.length) k2_94 hs2_94 ((fillV xs ys).1) A2_27 ((fillV xs ys).1.length) k2_27 hs2_27 ((fillV xs ys).1) ((holds_row (List.Mem.head _)) w hw) rfl h_94 hnfns_94_6 ((mx_nest (List.Mem.tail _ (List.Mem.head _))) w hw) ((holds_row (List.Mem.tail _ (List.Mem.tail _ (List.Mem.tail _ (List.Mem.tail _ (List.Mem.tail _ (List.Mem.tail _ (List.Mem.tail _ (List.Mem.tail _ (List.Mem.tail _ (List.Mem.tail _ (List.Mem.head _)))))))))))) w hw) rfl h_27 hnfns_27_7 ((mx_nest (List.Mem.tail _ (List.Mem.tail _ (List.Mem.tail _ (List.Mem.tail _ (List.Mem.tail _ (List.Mem.tail _ (List.Mem.tail _ (List.Mem.tail _ (List.Mem.tail _ (List.Mem.tail _ (List.Mem.tail _ (List.Mem.head _))))))))))))) w hw) (by first | assumption | omega | (simp; omega))))) rfl rfl (kt_if rfl (fun c99 => ?_) (fun c99 => ?_))
                        ·
                          refine wl_v (ov_not rfl) rfl rfl rfl ?_
                          refine wl_v (ov_move rfl) rfl rfl rfl ?_
                          refine wl_go rfl rfl ?_
                          refine wl_v (ov_move rfl) rfl rfl rfl ?_
                          refine wl_go rfl rfl ?_
                          refine wl_v (ov_move rfl) rfl rfl rfl ?_
                          refine wl_go rfl rfl ?_
                          refine wl_if (OpV.dec (ov_neqb uI4 rfl rfl)) rfl rfl rfl (fun c104 => ?_) (fun c104 => ?_)
                          ·
                            first | (exfalso; omega) | exact absurd rfl c104 | exact absurd (by simp) c104 | (exfalso; simp at c104; omega) | exact absurd ⟨rfl, rfl⟩ c104 | (simp at c104)
                          ·
                            refine wl_v (ov_pick_f rfl rfl) rfl rfl rfl ?_
                            refine wl_nil ?_
                            refine ce_then ?_
                            refine cw_false rfl ?_
                            refine cw_skip ?_
                            refine ce_then ?_
                            refine cw_seq ?_
                            refine cw_region ?_
                            refine wl_v (ov_assign rfl) rfl rfl rfl ?_
                            refine wl_nil ?_
                            refine ce_then ?_
                            refine cw_seq ?_
                            refine cw_region ?_
                            refine wl_v (ov_move rfl) rfl rfl rfl ?_
                            refine wl_v (ov_move rfl) rfl rfl rfl ?_
                            refine ct_fact (nest_facts (List.Mem.tail _ (List.Mem.tail _ (List.Mem.tail _ (List.Mem.tail _ (List.Mem.tail _ (List.Mem.head _))))))) (fun hnfns_37_8 => ?_)
                            have hnfns_37_8l := hnfns_37_8.1
                            refine wl_r (or_call (fv := []) (vs := [.slice A2_37 ((fillV xs ys).1.length) (k2_37), .int .i64 (1)]) (cs := []) en30 rfl rfl (call_v (fun w hw => heldIntSS_c w A2_37 ((fillV xs ys).1.length) k2_37 hs2_37 (mkTo 1 ((fillV xs ys).1) ((fillV xs ys).1.length)) 1 ((holds_row (List.Mem.tail _ (List.Mem.tail _ (List.Mem.tail _ (List.Mem.tail _ (List.Mem.head _)))))) w hw) hm3 h_37 hnfns_37_8 ((mx_nest (List.Mem.tail _ (List.Mem.tail _ (List.Mem.tail _ (List.Mem.tail _ (List.Mem.tail _ (List.Mem.head _))))))) w hw) hm5 (by first | assumption | omega | (simp; omega)) (by first | assumption | omega | (simp; omega))))) rfl rfl (kt0 rfl ?_)
                            refine wl_v (ov_assign rfl) rfl rfl rfl ?_
                            refine wl_nil ?_
                            refine ce_then ?_
                            refine cw_seq ?_
                            refine cw_seq ?_
                            refine cw_region ?_
                            refine wl_v (ov_move rfl) rfl rfl rfl ?_
                            refine wl_if (ov_lss rfl rfl) rfl rfl rfl (fun c110 => ?_) (fun c110 => ?_)
                            ·
                              first | (exfalso; omega) | exact absurd rfl c110 | exact absurd (by simp) c110 | (exfalso; simp at c110; omega) | exact absurd ⟨rfl, rfl⟩ c110 | (simp at c110)
                            ·
                              refine wl_nil ?_
                              refine ce_then ?_
                              refine cw_false rfl ?_
                              refine cw_skip ?_
                              refine ce_then ?_
                              refine cw_seq ?_
                              refine cw_seq ?_
                              refine cw_region ?_
                              refine wl_v (ov_move rfl) rfl rfl rfl ?_
                              refine wl_v (ov_move rfl) rfl rfl rfl ?_
                              refine wl_if (ov_neq rfl rfl) rfl rfl rfl (fun c113 => ?_) (fun c113 => ?_)
                              ·
                                first | (exfalso; omega) | exact absurd rfl c113 | exact absurd (by simp) c113 | (exfalso; simp at c113; omega) | exact absurd ⟨rfl, rfl⟩ c113 | (simp at c113)
                              ·
                                refine wl_nil ?_
                                refine ce_then ?_
                                refine cw_false rfl ?_
                                refine cw_skip ?_
                                refine ce_then ?_
                                refine cw_seq ?_
                                refine cw_region ?_
                                refine wl_v (ov_assign rfl) rfl rfl rfl ?_
                                refine wl_nil ?_
                                refine ce_then ?_
                                refine cw_ret ?_
                                refine ce_results (v := .bool true) (res1 rfl (rv_t rfl)) (fun w' hw => ?_)
                                exact ⟨rfl, (Keep.nil.ss hw).to_new⟩
                        ·
                          first | (exfalso; omega) | exact absurd rfl c99 | exact absurd (by simp) c99 | (exfalso; simp at c99; omega) | exact absurd ⟨rfl, rfl⟩ c99 | (simp at c99)
                ·
                  first | (exfalso; omega) | exact absurd rfl c70 | exact absurd (by simp) c70 | (exfalso; simp at c70; omega) | exact absurd ⟨rfl, rfl⟩ c70 | (simp at c70)
            ·
              first | (exfalso; omega) | exact absurd rfl c57 | exact absurd (by simp) c57 | (exfalso; simp at c57; omega) | exact absurd ⟨rfl, rfl⟩ c57 | (simp at c57)
          ·
            first | (exfalso; omega) | exact absurd rfl c52 | exact absurd (by simp) c52 | (exfalso; simp at c52; omega) | exact absurd ⟨rfl, rfl⟩ c52 | (simp at c52)
      ·
        first | (exfalso; omega) | exact absurd rfl c42 | exact absurd (by simp) c42 | (exfalso; simp at c42; omega) | exact absurd ⟨rfl, rfl⟩ c42 | (simp at c42)
end Go.Proofs.Ytebbejphopplbaa.LFnExactFillMatrix
