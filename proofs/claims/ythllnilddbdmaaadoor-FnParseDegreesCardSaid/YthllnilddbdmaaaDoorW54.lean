/- Walks of functions of the given program: each returns what its Lean function says and leaves the memory that was there as it was. Conditions: those of each theorem. -/
import Derived.Test.YthllnilddbdmaaaDoorSm
import Derived.Test.YthllnilddbdmaaaDoorProg
import Derived.Test.YthllnilddbdmaaaDoorPl
import Derived.Test.YthllnilddbdmaaaDoorPo
import Derived.Test.YthllnilddbdmaaaDoorPd
import Derived.Test.YthllnilddbdmaaaDoorPe
import Derived.Test.YthllnilddbdmaaaDoorPh
import Derived.Test.YthllnilddbdmaaaDoorPm
import Derived.Test.YthllnilddbdmaaaDoorPc
import Derived.Test.YthllnilddbdmaaaDoorPs
import Derived.Test.YthllnilddbdmaaaDoorPt
import Derived.Test.YthllnilddbdmaaaDoorPu
import Derived.Test.YthllnilddbdmaaaDoorPv
import Derived.Test.YthllnilddbdmaaaDoorPw
import Derived.Test.YthllnilddbdmaaaDoorPx
import Derived.Test.YthllnilddbdmaaaDoorPy
import Derived.Test.YthllnilddbdmaaaDoorPz
import Derived.Test.YthllnilddbdmaaaDoorPr
import Derived.Test.YthllnilddbdmaaaDoorPa
import Derived.Test.YthllnilddbdmaaaDoorPn
import Derived.Test.YthllnilddbdmaaaDoorPj
import Derived.Test.YthllnilddbdmaaaDoorPq
import Derived.Test.YthllnilddbdmaaaDoorSs
import Derived.Test.YthllnilddbdmaaaDoorPk
import Derived.Test.YthllnilddbdmaaaDoorSb
import Derived.Test.YthllnilddbdmaaaDoorT
import Derived.Test.YthllnilddbdmaaaDoorW11
import Derived.Test.YthllnilddbdmaaaDoorW51
import Derived.KernelRfl
namespace Go.Proofs.YthllnilddbdmaaaDoor.W54
open Go.Sx Go.RowKit Go.Proofs.YthllnilddbdmaaaDoor.T Go.Proofs.YthllnilddbdmaaaDoor.W11 Go.Proofs.YthllnilddbdmaaaDoor.W51
open Go.Plain
set_option linter.unusedVariables false
set_option maxRecDepth 100000 in
theorem liftedD_c (w w0 : World) (Bd : Nat) (F : List Ent) (g : Nat) (Ar : Option Addr) (nr : Nat) (cr : Nat) (bs : List Nat) (p : Nat) (A1 : Option Addr) (n1 : Nat) (c1 : Nat) (xs : List Int) (hAr : Holds (SS w0 Bd F) Ar (cells fY bs)) (eAr : bs.length = nr) (lAr : nr ≤ cr) (hy : nr ≤ 2000 ∧ (∀ x ∈ bs, x < 256) ∧ p ≤ 90000) (l1 : n1 ≤ c1) (e1 : xs.length = n1) (hsm : Dg xs) (hn : n1 ≤ 8) (hss : SS w0 Bd ((blk g [.slice Ar (nr) (cr), .int .i64 (((p : Nat) : Int))] 76) :: (row 3 1 A1 (n1) (c1) (cells fI xs)) :: F) w) : Calls Tryd.prog 57 #[elp (some ⟨g, 0, none⟩) (0), .slice A1 (n1) (c1)] w (Ret fun rv w' => ∃ ys q, ((ys.length = n1 ∧ Dg ys) ∧ p ≤ q ∧ q ≤ p + 10) ∧ rv = .slice A1 (n1) (c1) ∧ SS w0 Bd ((row 3 1 A1 (n1) (c1) (cells fI ys)) :: (blk g [.slice Ar (nr) (cr), .int .i64 (((q : Nat) : Int))] 76) :: F) w') := by
  refine fn_enter (args := [elp (some ⟨g, 0, none⟩) (0), .slice A1 (n1) (c1)]) Tryd.func57 rfl Tryd.ntmps57 rfl hss ?_
  refine cw_seq ?_
  refine cw_region ?_
  refine wl_v (ov_assign rfl) rfl rfl rfl ?_
  refine wl_nil ?_
  refine ce_then ?_
  refine cw_seq ?_
  refine cw_seq ?_
  refine cw_region ?_
  refine wl_v (ov_move rfl) rfl rfl rfl ?_
  refine wl_v (ov_len (sliceI_spec sI33) rfl) rfl rfl rfl ?_
  refine wl_if (ov_lss rfl rfl) rfl rfl rfl (fun c9 => ?_) (fun c9 => ?_)
  ·
    refine wl_nil ?_
    refine ce_then ?_
    refine cw_true rfl ?_
    refine cw_seq ?_
    refine cw_region ?_
    refine wl_v (ov_move rfl) rfl rfl rfl ?_
    refine wl_v (ov_assign rfl) rfl rfl rfl ?_
    refine wl_nil ?_
    refine ce_then ?_
    refine cw_ret ?_
    refine ce_then_ret ?_
    refine ce_results (v := .slice A1 (n1) (c1)) (res1 rfl (rv_t rfl)) (fun w' hw => ?_)
    exact ⟨xs, p, ⟨⟨e1, hsm⟩, by omega, by omega⟩, rfl, ((.cons (.tail .head) (.cons (.head) (.refl)) : Keep _ _).ss hw)⟩
  ·
    refine wl_nil ?_
    refine ce_then ?_
    refine cw_false rfl ?_
    refine cw_skip ?_
    refine ce_then ?_
    refine cw_seq ?_
    refine cw_seq ?_
    refine cw_region ?_
    refine wl_v (ov_move rfl) rfl rfl rfl ?_
    refine wl_r (or_buildSlice (e := 3) (size := 1) (is := [0, 1, 2, 3, 4]) (vs := [.int .i64 (0), .int .i64 (1), .int .i64 (2), .int .i64 (2), .int .i64 (3)]) (cs := cells fI ([0, 1, 2, 2, 3])) rfl rfl rfl (by decide) (fun _ => by kernel_rfl)) rfl rfl (kt1 rfl (fun g12 => ?_))
    refine wl_r (or_call (fv := []) (vs := [elp (some ⟨g, 0, none⟩) (0), .slice (some ⟨g12, 0, none⟩) (5) (5)]) (cs := []) en62 rfl rfl (call_o (.cons (.tail .head) (.cons (.head) (.cons (.head) (.refl)))) (fun w hw => one_c w _ _ _ (some ⟨g12, 0, none⟩) 5 5 ([0, 1, 2, 2, 3]) g Ar nr cr bs p (holds_row (List.Mem.head _)) (by first | rfl | assumption | (simp; done) | (simp; omega)) (Nat.le_refl _) (Holds.keepF hAr ((.drop (.drop .refl)))) (by first | rfl | assumption | (simp; done) | (simp; omega)) lAr ⟨hy.1, hy.2.1, by omega⟩ (by first | assumption | omega | (simp; omega)) hw))) rfl rfl (kt1p rfl (fun v_13 h_13 => ?_))
    refine wl_v (ov_assign rfl) rfl rfl rfl ?_
    refine wl_nil ?_
    refine ce_then ?_
    refine cw_block ?_
    refine cw_loop3 (fun (t : Int) (ys : List Int) (q : Nat) => [(0, elp (some ⟨g, 0, none⟩) (0)), (1, .slice A1 (n1) (c1)), (4, .slice none (0) (0)), (5, .int .i64 (t))]) (fun (t : Int) (ys : List Int) (q : Nat) => (blk g [.slice Ar (nr) (cr), .int .i64 (((q : Nat) : Int))] 76) :: (row 3 1 (some ⟨g12, 0, none⟩) (5) (5) (cells fI ([0, 1, 2, 2, 3]))) :: (row 3 1 A1 (n1) (c1) (cells fI ys)) :: F) (fun (t : Int) (ys : List Int) (q : Nat) => (0 ≤ t ∧ t ≤ 3) ∧ (ys.length = n1 ∧ Dg ys) ∧ p ≤ q ∧ (q : Int) ≤ p + 7 - 2 * t) (fun (t : Int) (ys : List Int) (q : Nat) => t.toNat) v_13 xs (p + 1) ⟨by simp at h_13; omega, ⟨e1, hsm⟩, by omega, by simp at h_13; omega⟩ (.cons rfl (.cons rfl (.cons rfl (.cons rfl (.nil))))) (.cons (.head) (.cons (.head) (.cons (.head) (.refl)))) ?_
    intro R0 t ys q hk hR0
    obtain ⟨ht, ⟨hyl, hys⟩, hq1, hq2⟩ := hk
    refine cw_seq ?_
    refine cw_seq ?_
    refine cw_region ?_
    refine wl_v (ov_move rfl) rfl rfl rfl ?_
    refine wl_if (ov_gtr rfl rfl) rfl rfl rfl (fun c15 => ?_) (fun c15 => ?_)
    ·
      refine wl_nil ?_
      refine ce_then ?_
      refine cw_true rfl ?_
      refine cw_skip ?_
      refine ce_then ?_
      refine cw_seq ?_
      refine cw_block ?_
      refine cw_seq ?_
      refine cw_region ?_
      refine wl_v (ov_move rfl) rfl rfl rfl ?_
      refine wl_v (ov_move rfl) rfl rfl rfl ?_
      refine wl_v (ov_len (sliceI_spec sI33) rfl) rfl rfl rfl ?_
      refine wl_r (or_call (fv := []) (vs := [elp (some ⟨g, 0, none⟩) (0), .int .i64 (((n1 : Nat) : Int))]) (cs := []) en37 rfl rfl (call_o (.cons (.head) (.cons (.head) (.cons (.head) (.refl)))) (fun w hw => pick_c w _ _ _ ((n1 : Nat) : Int) g Ar nr cr bs q (Holds.keepF hAr ((.drop (.drop .refl)))) (by first | rfl | assumption | (simp; done) | (simp; omega)) lAr ⟨hy.1, hy.2.1, by omega⟩ (by first | assumption | omega | (simp; omega)) hw))) rfl rfl (kt1p rfl (fun v_21 h_21 => ?_))
      refine wl_v (ov_assign rfl) rfl rfl rfl ?_
      refine wl_nil ?_
      refine ce_then ?_
      refine cw_draw mixO [16] (.cons (.tail .head) (.cons (.tail .head) ((.drop .refl)))) rfl ?_
      refine wg_takep (i := 0) rfl (ov_move rfl) rfl rfl rfl (by kernel_rfl) (by kernel_rfl) (by kernel_rfl) rfl ?_
      refine wg_takep (i := 1) rfl (ov_move rfl) rfl rfl rfl (by kernel_rfl) (by kernel_rfl) (by kernel_rfl) rfl ?_
      refine wg_takep (i := 2) rfl (ov_move rfl) rfl rfl rfl (by kernel_rfl) (by kernel_rfl) (by kernel_rfl) rfl ?_
      refine wg_takep (i := 3) rfl (ov_move rfl) rfl rfl rfl (by kernel_rfl) (by kernel_rfl) (by kernel_rfl) rfl ?_
      refine wg_take (i := 4) rfl (ov_indexg sI33 tI3 rfl rfl (some_holds (q := v_21.toNat * 1) (holds_row (List.Mem.tail _ (List.Mem.head _))) (by rw [cells_length fI_len]; have hlt : v_21.toNat < ys.length := (by omega); omega)) (by omega) (show v_21.toNat < n1 from (by omega))) rfl rfl rfl (by kernel_rfl) (by kernel_rfl) (by kernel_rfl) (by kernel_rfl) ?_
      refine wg_take (i := 5) rfl (ov_load tI3 (holds_row (List.Mem.tail _ (List.Mem.head _))) rfl (get_fI (show v_21.toNat < ys.length from (by omega)))) rfl rfl rfl (by kernel_rfl) (by kernel_rfl) (by kernel_rfl) (by kernel_rfl) ?_
      have hv := hys.at_ (k := v_21.toNat) (by omega)
      refine wg_takep (i := 6) rfl (ov_move rfl) rfl rfl rfl (by kernel_rfl) (by kernel_rfl) (by kernel_rfl) rfl ?_
      refine wg_takep (i := 11) rfl (ov_move rfl) rfl rfl rfl (by kernel_rfl) (by kernel_rfl) (by kernel_rfl) rfl ?_
      refine wg_takep (i := 12) rfl (ov_len (sliceI_spec sI33) rfl) rfl rfl rfl (by kernel_rfl) (by kernel_rfl) (by kernel_rfl) rfl ?_
      refine wg_takep (i := 13) rfl (ov_sub (r := ((n1 : Nat) : Int) - 1) rfl rfl rfl (by omega)) rfl rfl rfl (by kernel_rfl) (by kernel_rfl) (by kernel_rfl) rfl ?_
      refine wg_one (i := 7) (by kernel_rfl) ?_
      refine go_r rfl rfl rfl rfl (or_buildSlice (e := 3) (size := 1) (is := [0, 1, 2, 3]) (vs := [.int .i64 (1), .int .i64 (-1), .int .i64 (1), .int .i64 (2)]) (cs := cells fI ([1, -1, 1, 2])) rfl rfl rfl (by decide) (fun _ => by kernel_rfl)) (kt1 rfl (fun g29 => ?_))
      refine gk (.cons (.tail (.tail .head)) (.cons (.tail (.tail .head)) ((.drop (.drop .refl))))) ?_
      refine wg_one (i := 8) (by kernel_rfl) ?_
      refine go_r rfl rfl rfl rfl (or_call (fv := []) (vs := [elp (some ⟨g, 0, none⟩) (0), .slice (some ⟨g29, 0, none⟩) (4) (4)]) (cs := []) en62 rfl rfl (call_o (.cons (.tail .head) (.cons (.head) (.cons (.head) (.cons (.head) (.refl))))) (fun w hw => one_c w _ _ _ (some ⟨g29, 0, none⟩) 4 4 ([1, -1, 1, 2]) g Ar nr cr bs (q + 1) (holds_row (List.Mem.head _)) (by first | rfl | assumption | (simp; done) | (simp; omega)) (Nat.le_refl _) (Holds.keepF hAr ((.drop (.drop (.drop .refl))))) (by first | rfl | assumption | (simp; done) | (simp; omega)) lAr ⟨hy.1, hy.2.1, by omega⟩ (by first | assumption | omega | (simp; omega)) hw))) (kt1p rfl (fun v_30 h_30 => ?_))
      refine gk (.cons (.tail (.tail .head)) (.cons (.tail (.tail .head)) ((.drop (.drop .refl))))) ?_
      have h30 : -1 ≤ v_30 ∧ v_30 ≤ 2 := (by simp at h_30; omega)
      refine wg_takep (i := 9) rfl (ov_add (r := (ys.getD v_21.toNat 0) + v_30) rfl rfl rfl (by omega)) rfl rfl rfl (by kernel_rfl) (by kernel_rfl) (by kernel_rfl) rfl ?_
      refine wg_takep (i := 10) rfl (ov_max (r := max ((ys.getD v_21.toNat 0) + v_30) 0) rfl rfl (by first | omega | (split <;> omega))) rfl rfl rfl (by kernel_rfl) (by kernel_rfl) (by kernel_rfl) rfl ?_
      refine wg_takep (i := 14) rfl (ov_min (r := min (max ((ys.getD v_21.toNat 0) + v_30) 0) (((n1 : Nat) : Int) - 1)) rfl rfl (by first | omega | (split <;> omega))) rfl rfl rfl (by kernel_rfl) (by kernel_rfl) (by kernel_rfl) rfl ?_
      refine wg_take (i := 15) rfl (ov_indexg sI33 tI3 rfl rfl (some_holds (q := v_21.toNat * 1) (holds_row (List.Mem.tail _ (List.Mem.head _))) (by rw [cells_length fI_len]; have hlt : v_21.toNat < ys.length := (by omega); omega)) (by omega) (show v_21.toNat < n1 from (by omega))) rfl rfl rfl (by kernel_rfl) (by kernel_rfl) (by kernel_rfl) (by kernel_rfl) ?_
      refine wg_one (i := 16) (by kernel_rfl) ?_
      refine go_late0 rfl rfl rfl rfl (or_store_row (vs := [.int .i64 (min (max ((ys.getD v_21.toNat 0) + v_30) 0) (((n1 : Nat) : Int) - 1))]) (cs' := cells fI (ys.set v_21.toNat (min (max ((ys.getD v_21.toNat 0) + v_30) 0) (((n1 : Nat) : Int) - 1)))) (.tail (.tail (.tail .head))) tI3 rfl rfl rfl rfl (by rw [cells_length fI_len]; have hlt := (show v_21.toNat < ys.length from (by omega)); simp only [List.length_cons, List.length_nil]; omega) (by simp) (cells_splice fI_len (show v_21.toNat < ys.length from (by omega)) (min (max ((ys.getD v_21.toNat 0) + v_30) 0) (((n1 : Nat) : Int) - 1)))) (kn0 ?_)
      refine wa_done (by kernel_rfl) ?_
      refine ce_block ?_
      refine ce_then ?_
      refine cw_region ?_
      refine wl_v (ov_move rfl) rfl rfl rfl ?_
      refine wl_v (ov_sub (r := t - 1) rfl rfl rfl (by omega)) rfl rfl rfl ?_
      refine wl_v (ov_assign rfl) rfl rfl rfl ?_
      refine wl_nil ?_
      exact fun ac_ w_ hs_ => hR0 (t - 1) (ys.set v_21.toNat (min (max ((ys.getD v_21.toNat 0) + v_30) 0) (((n1 : Nat) : Int) - 1))) (q + 1 + 1) ⟨by omega, ⟨by rw [List.length_set]; exact hyl, hys.set (by omega)⟩, by omega, by omega⟩ (by omega) ac_ w_ (hs_.weaken (.cons rfl (.cons rfl (.cons rfl (.cons rfl (.nil))))) (.cons (.tail .head) (.cons (.tail (.tail .head)) (.cons (.head) ((.drop .refl))))))
    ·
      refine wl_nil ?_
      refine ce_then ?_
      refine cw_false rfl ?_
      refine cw_exit ?_
      refine ce_then_exit ?_
      refine ce_then_exit ?_
      refine ce_hit ?_
      refine ce_then ?_
      refine cw_seq ?_
      refine cw_region ?_
      refine wl_v (ov_move rfl) rfl rfl rfl ?_
      refine wl_v (ov_assign rfl) rfl rfl rfl ?_
      refine wl_nil ?_
      refine ce_then ?_
      refine cw_ret ?_
      refine ce_results (v := .slice A1 (n1) (c1)) (res1 rfl (rv_t rfl)) (fun w' hw => ?_)
      exact ⟨ys, q, ⟨⟨hyl, hys⟩, by omega, by omega⟩, rfl, ((.cons (.tail (.tail .head)) (.cons (.head) ((.drop .refl))) : Keep _ _).ss hw)⟩
set_option maxRecDepth 100000 in
theorem goodDegreesD_c (w w0 : World) (Bd : Nat) (F : List Ent) (g : Nat) (Ar : Option Addr) (nr : Nat) (cr : Nat) (bs : List Nat) (p : Nat) (hAr : Holds (SS w0 Bd F) Ar (cells fY bs)) (eAr : bs.length = nr) (lAr : nr ≤ cr) (hy : nr ≤ 2000 ∧ (∀ x ∈ bs, x < 256) ∧ p ≤ 80000) (hss : SS w0 Bd ((blk g [.slice Ar (nr) (cr), .int .i64 (((p : Nat) : Int))] 76) :: F) w) : Calls Tryd.prog 36 #[elp (some ⟨g, 0, none⟩) (0)] w (Ret fun rv w' => ∃ A2 c2 ys q, ((ys.length ≤ c2 ∧ ys.length ≤ 8 ∧ Dg ys) ∧ p ≤ q ∧ q ≤ p + 300) ∧ rv = .slice A2 (ys.length) (c2) ∧ SS w0 Bd ((row 3 1 A2 (ys.length) (c2) (cells fI ys)) :: (blk g [.slice Ar (nr) (cr), .int .i64 (((q : Nat) : Int))] 76) :: F) w') := by
  refine fn_enter (args := [elp (some ⟨g, 0, none⟩) (0)]) Tryd.func36 rfl Tryd.ntmps36 rfl hss ?_
  refine cw_seq ?_
  refine cw_region ?_
  refine wl_v (ov_assign rfl) rfl rfl rfl ?_
  refine wl_nil ?_
  refine ce_then ?_
  refine cw_seq ?_
  refine cw_region ?_
  refine wl_v (ov_move rfl) rfl rfl rfl ?_
  refine wl_r (or_call (fv := []) (vs := [elp (some ⟨g, 0, none⟩) (0)]) (cs := []) en56 rfl rfl (call_o (.cons (.head) (.refl)) (fun w hw => goodGraph_c w _ _ _ g Ar nr cr bs p (Holds.keepF hAr (.refl)) (by first | rfl | assumption | (simp; done) | (simp; omega)) lAr ⟨hy.1, hy.2.1, by omega⟩ hw))) rfl rfl (kt5p rfl (fun m_5 A2_5 c2_5 es_5 q_5 h_5 => ?_))
  have hg5 := gr_of_sublist h_5.2.1.2
  have hl5 := hg5.len (by omega)
  have hsm6 := degs_dg hg5 (by omega)
  refine wl_r (or_call (fv := []) (vs := [.agg #[.int .i64 (((m_5 : Nat) : Int)), .slice A2_5 (es_5.length) (c2_5)]]) (cs := []) en55 rfl rfl (call_x1 (fun w hw => degreesS_c w m_5 A2_5 es_5.length c2_5 es_5 ((holds_row (List.Mem.head _)) w hw) rfl h_5.2.1.1 (by omega) (by omega) hg5.inr))) rfl rfl (kt1p rfl (fun g_6 h_6 => ?_))
  refine wl_v (ov_assign rfl) rfl rfl rfl ?_
  refine wl_nil ?_
  refine ce_then ?_
  refine cw_seq ?_
  refine cw_seq ?_
  refine cw_region ?_
  refine wl_v (ov_move rfl) rfl rfl rfl ?_
  refine wl_r (or_call (fv := []) (vs := [elp (some ⟨g, 0, none⟩) (0), .int .i64 (2)]) (cs := []) en37 rfl rfl (call_o (.cons (.tail (.tail .head)) (.cons (.head) (.cons (.head) (.refl)))) (fun w hw => pick_c w _ _ _ 2 g Ar nr cr bs q_5 (Holds.keepF hAr ((.drop (.drop .refl)))) (by first | rfl | assumption | (simp; done) | (simp; omega)) lAr ⟨hy.1, hy.2.1, by omega⟩ (by first | assumption | omega | (simp; omega)) hw))) rfl rfl (kt1p rfl (fun v_8 h_8 => ?_))
  refine wl_if (ov_eql rfl rfl) rfl rfl rfl (fun c9 => ?_) (fun c9 => ?_)
  ·
    refine wl_nil ?_
    refine ce_then ?_
    refine cw_true rfl ?_
    refine cw_seq ?_
    refine cw_region ?_
    refine wl_v (ov_move rfl) rfl rfl rfl ?_
    refine wl_v (ov_move rfl) rfl rfl rfl ?_
    refine wl_r (or_call (fv := []) (vs := [elp (some ⟨g, 0, none⟩) (0), .slice (some ⟨g_6, 0, none⟩) (m_5) (m_5)]) (cs := []) en57 rfl rfl (call_o (.cons (.head) (.cons (.head) (.cons (.head) (.refl)))) (fun w hw => liftedD_c w _ _ _ g Ar nr cr bs (q_5 + 1) (some ⟨g_6, 0, none⟩) m_5 m_5 (degs m_5 es_5) (Holds.keepF hAr ((.drop .refl))) (by first | rfl | assumption | (simp; done) | (simp; omega)) lAr ⟨hy.1, hy.2.1, by omega⟩ (Nat.le_refl _) (degs_length _ _) hsm6 (by first | assumption | omega | (simp; omega)) hw))) rfl rfl (kt2p rfl (fun ys_12 q_12 h_12 => ?_))
    refine wl_v (ov_assign rfl) rfl rfl rfl ?_
    refine wl_nil ?_
    refine ce_then ?_
    refine cw_ret ?_
    refine ce_then_ret ?_
    refine ce_results (v := .slice (some ⟨g_6, 0, none⟩) (m_5) (m_5)) (res1 rfl (rv_t rfl)) (fun w' hw => ?_)
    exact ⟨some ⟨g_6, 0, none⟩, m_5, ys_12, q_12, ⟨⟨by omega, by omega, h_12.1.2⟩, by omega, by omega⟩, (by rw [h_12.1.1]), ((.consE (show row 3 1 (some ⟨g_6, 0, none⟩) (m_5) (m_5) (cells fI ys_12) = row 3 1 (some ⟨g_6, 0, none⟩) (ys_12.length) (m_5) (cells fI ys_12) by rw [h_12.1.1]) (.head) (.cons (.head) ((.drop .refl))) : Keep _ _).ss hw)⟩
  ·
    refine wl_nil ?_
    refine ce_then ?_
    refine cw_false rfl ?_
    refine cw_skip ?_
    refine ce_then ?_
    refine cw_seq ?_
    refine cw_region ?_
    refine wl_v (ov_move rfl) rfl rfl rfl ?_
    refine wl_v (ov_assign rfl) rfl rfl rfl ?_
    refine wl_nil ?_
    refine ce_then ?_
    refine cw_ret ?_
    refine ce_results (v := .slice (some ⟨g_6, 0, none⟩) (m_5) (m_5)) (res1 rfl (rv_t rfl)) (fun w' hw => ?_)
    exact ⟨some ⟨g_6, 0, none⟩, m_5, degs m_5 es_5, q_5 + 1, ⟨⟨by rw [degs_length]; omega, by rw [degs_length]; omega, hsm6⟩, by omega, by omega⟩, (by rw [degs_length]), ((.consE (show row 3 1 (some ⟨g_6, 0, none⟩) (m_5) (m_5) (cells fI (degs m_5 es_5)) = row 3 1 (some ⟨g_6, 0, none⟩) ((degs m_5 es_5).length) (m_5) (cells fI (degs m_5 es_5)) by rw [degs_length]) (.tail .head) (.cons (.head) ((.drop .refl))) : Keep _ _).ss hw)⟩
set_option maxRecDepth 100000 in
theorem of_c (w w0 : World) (Bd : Nat) (F : List Ent) (A1 : Option Addr) (n1 : Nat) (c1 : Nat) (ss : List (ByteArray)) (g : Nat) (Ar : Option Addr) (nr : Nat) (cr : Nat) (bs : List Nat) (p : Nat) (hA1 : Holds (SS w0 Bd F) A1 (cells fS ss)) (eA1 : ss.length = n1) (lA1 : n1 ≤ c1) (hAr : Holds (SS w0 Bd F) Ar (cells fY bs)) (eAr : bs.length = nr) (lAr : nr ≤ cr) (hy : nr ≤ 2000 ∧ (∀ x ∈ bs, x < 256) ∧ p ≤ 100000) (h0 : 0 < n1 ∧ n1 ≤ 1000) (hss : SS w0 Bd ((blk g [.slice Ar (nr) (cr), .int .i64 (((p : Nat) : Int))] 76) :: F) w) : Calls Tryd.prog 58 #[elp (some ⟨g, 0, none⟩) (0), .slice A1 (n1) (c1)] w (Ret fun rv w' => ∃ t, (t ∈ ss) ∧ rv = .string (t) ∧ SS w0 Bd ((blk g [.slice Ar (nr) (cr), .int .i64 (((p + 1 : Nat) : Int))] 76) :: F) w') := by
  subst eA1
  refine fn_enter (args := [elp (some ⟨g, 0, none⟩) (0), .slice A1 (ss.length) (c1)]) Tryd.func58 rfl Tryd.ntmps58 rfl hss ?_
  refine cw_seq ?_
  refine cw_region ?_
  refine wl_v (ov_assign rfl) rfl rfl rfl ?_
  refine wl_nil ?_
  refine ce_then ?_
  refine cw_seq ?_
  refine cw_region ?_
  refine wl_v (ov_move rfl) rfl rfl rfl ?_
  refine wl_v (ov_move rfl) rfl rfl rfl ?_
  refine wl_v (ov_move rfl) rfl rfl rfl ?_
  refine wl_v (ov_len (sliceI_spec sI47) rfl) rfl rfl rfl ?_
  refine wl_r (or_call (fv := []) (vs := [elp (some ⟨g, 0, none⟩) (0), .int .i64 (((ss.length : Nat) : Int))]) (cs := []) en37 rfl rfl (call_o (.cons (.head) (.refl)) (fun w hw => pick_c w _ _ _ ((ss.length : Nat) : Int) g Ar nr cr bs p (Holds.keepF hAr (.refl)) (by first | rfl | assumption | (simp; done) | (simp; omega)) lAr ⟨hy.1, hy.2.1, by omega⟩ (by first | assumption | omega | (simp; omega)) hw))) rfl rfl (kt1p rfl (fun v_9 h_9 => ?_))
  refine wl_v (ov_indexg sI47 tI9 rfl rfl (some_holds (q := v_9.toNat * 1) (Holds.keepF hA1 ((.drop .refl))) (by rw [cells_length fS_len]; have hlt : v_9.toNat < ss.length := (by omega); omega)) (by omega) (show v_9.toNat < ss.length from (by omega))) rfl rfl rfl ?_
  refine wl_v (ov_load tI9 (Holds.keepF hA1 ((.drop .refl))) rfl (get_fS (show v_9.toNat < ss.length from (by omega)))) rfl rfl rfl ?_
  refine wl_v (ov_assign rfl) rfl rfl rfl ?_
  refine wl_nil ?_
  refine ce_then ?_
  refine cw_ret ?_
  refine ce_results (v := .string ((ss.getD v_9.toNat ByteArray.empty))) (res1 rfl (rv_t rfl)) (fun w' hw => ?_)
  exact ⟨(ss.getD v_9.toNat ByteArray.empty), (getD_mem ByteArray.empty (by omega)), rfl, ((.cons (.head) (.refl) : Keep _ _).ss hw)⟩
set_option maxRecDepth 100000 in
theorem mutate_c (w w0 : World) (Bd : Nat) (F : List Ent) (s : ByteArray) (g : Nat) (Ar : Option Addr) (nr : Nat) (cr : Nat) (bs : List Nat) (p : Nat) (hAr : Holds (SS w0 Bd F) Ar (cells fY bs)) (eAr : bs.length = nr) (lAr : nr ≤ cr) (hy : nr ≤ 2000 ∧ (∀ x ∈ bs, x < 256) ∧ p ≤ 90000) (hs : s.size ≤ 1000) (hss : SS w0 Bd ((blk g [.slice Ar (nr) (cr), .int .i64 (((p : Nat) : Int))] 76) :: F) w) : Calls Tryd.prog 38 #[elp (some ⟨g, 0, none⟩) (0), .string (s)] w (Ret fun rv w' => ∃ t q, (t.size ≤ s.size + 2 ∧ p ≤ q ∧ q ≤ p + 5) ∧ rv = .string (t) ∧ SS w0 Bd ((blk g [.slice Ar (nr) (cr), .int .i64 (((q : Nat) : Int))] 76) :: F) w') := by
  refine fn_enter (args := [elp (some ⟨g, 0, none⟩) (0), .string (s)]) Tryd.func38 rfl Tryd.ntmps38 rfl hss ?_
  refine cw_seq ?_
  refine cw_region ?_
  refine wl_v (ov_assign rfl) rfl rfl rfl ?_
  refine wl_nil ?_
  refine ce_then ?_
  refine cw_seq ?_
  refine cw_region ?_
  refine wl_v (ov_move rfl) rfl rfl rfl ?_
  refine wl_v (ov_move rfl) rfl rfl rfl ?_
  refine wl_v (ov_lens uI9 rfl) rfl rfl rfl ?_
  refine wl_v (ov_add (r := ((s.size + 1 : Nat) : Int)) rfl rfl rfl (by omega)) rfl rfl rfl ?_
  refine wl_r (or_call (fv := []) (vs := [elp (some ⟨g, 0, none⟩) (0), .int .i64 (((s.size + 1 : Nat) : Int))]) (cs := []) en37 rfl rfl (call_o (.cons (.head) (.refl)) (fun w hw => pick_c w _ _ _ ((s.size + 1 : Nat) : Int) g Ar nr cr bs p (Holds.keepF hAr (.refl)) (by first | rfl | assumption | (simp; done) | (simp; omega)) lAr ⟨hy.1, hy.2.1, by omega⟩ (by first | assumption | omega | (simp; omega)) hw))) rfl rfl (kt1p rfl (fun v_10 h_10 => ?_))
  obtain ⟨j, hj⟩ := Int.eq_ofNat_of_zero_le h_10.1
  rw [hj] at h_10
  have hj2 : j ≤ s.size := by omega
  have hx0 := ext0_size s hj2
  have hx1 : j + 1 ≤ s.size → (s.extract (j + 1) s.size).size = s.size - (j + 1) := fun h => ext1_size s h
  refine ct_keep (L' := [(0, elp (some ⟨g, 0, none⟩) (0)), (1, .string (s)), (4, .string (bstr [])), (6, elp (some ⟨g, 0, none⟩) (0)), (7, .string (s)), (8, .int .i64 (((s.size : Nat) : Int))), (9, .int .i64 (((s.size + 1 : Nat) : Int))), (10, .int .i64 (((j : Nat) : Int)))]) (.cons rfl (.cons rfl (.cons rfl (.cons rfl (.cons rfl (.cons rfl (.cons rfl (.cons (congrArg (fun z => some (Value.int .i64 z)) (show v_10 = ((j : Nat) : Int) from hj)) (.nil))))))))) .refl ?_
  refine wl_v (ov_assign rfl) rfl rfl rfl ?_
  refine wl_nil ?_
  refine ce_then ?_
  refine cw_seq ?_
  refine cw_seq ?_
  refine cw_region ?_
  refine wl_v (ov_move rfl) rfl rfl rfl ?_
  refine wl_r (or_call (fv := []) (vs := [elp (some ⟨g, 0, none⟩) (0), .int .i64 (5)]) (cs := []) en37 rfl rfl (call_o (.cons (.head) (.refl)) (fun w hw => pick_c w _ _ _ 5 g Ar nr cr bs (p + 1) (Holds.keepF hAr (.refl)) (by first | rfl | assumption | (simp; done) | (simp; omega)) lAr ⟨hy.1, hy.2.1, by omega⟩ (by first | assumption | omega | (simp; omega)) hw))) rfl rfl (kt1p rfl (fun v_12 h_12 => ?_))
  refine wl_nil ?_
  refine ce_then ?_
  refine cw_block ?_
  refine cw_seq ?_
  refine cw_seq ?_
  refine cw_region ?_
  refine wl_if (ov_eql rfl rfl) rfl rfl rfl (fun c14 => ?_) (fun c14 => ?_)
  ·
    refine wl_v (ov_assign rfl) rfl rfl rfl ?_
    refine wl_nil ?_
    refine ce_then ?_
    refine cw_true rfl ?_
    refine cw_skip ?_
    refine ce_then ?_
    refine cw_true rfl ?_
    refine cw_seq ?_
    refine cw_region ?_
    refine wl_v (ov_move rfl) rfl rfl rfl ?_
    refine wl_v (ov_move rfl) rfl rfl rfl ?_
    refine wl_v (ov_lens uI9 rfl) rfl rfl rfl ?_
    refine wl_if (ov_lss rfl rfl) rfl rfl rfl (fun c19 => ?_) (fun c19 => ?_)
    ·
      refine wl_nil ?_
      refine ce_then ?_
      refine cw_true rfl ?_
      refine cw_seq ?_
      refine cw_draw mixO [] ((.drop .refl)) rfl ?_
      refine wg_takep (i := 0) rfl (ov_move rfl) rfl rfl rfl (by kernel_rfl) (by kernel_rfl) (by kernel_rfl) rfl ?_
      refine wg_takep (i := 1) rfl (ov_move rfl) rfl rfl rfl (by kernel_rfl) (by kernel_rfl) (by kernel_rfl) rfl ?_
      refine wg_takep (i := 2) rfl (ov_slices_h (k := j) uI9 rfl rfl (by omega)) rfl rfl rfl (by kernel_rfl) (by kernel_rfl) (by kernel_rfl) rfl ?_
      refine wg_takep (i := 3) rfl (ov_move rfl) rfl rfl rfl (by kernel_rfl) (by kernel_rfl) (by kernel_rfl) rfl ?_
      refine wg_takep (i := 7) rfl (ov_move rfl) rfl rfl rfl (by kernel_rfl) (by kernel_rfl) (by kernel_rfl) rfl ?_
      refine wg_takep (i := 8) rfl (ov_move rfl) rfl rfl rfl (by kernel_rfl) (by kernel_rfl) (by kernel_rfl) rfl ?_
      refine wg_takep (i := 9) rfl (ov_add (r := ((j + 1 : Nat) : Int)) rfl rfl rfl (by omega)) rfl rfl rfl (by kernel_rfl) (by kernel_rfl) (by kernel_rfl) rfl ?_
      refine wg_takep (i := 10) rfl (ov_slices_l (k := j + 1) uI9 rfl rfl (by omega)) rfl rfl rfl (by kernel_rfl) (by kernel_rfl) (by kernel_rfl) rfl ?_
      refine wg_one (i := 4) (by kernel_rfl) ?_
      refine go_r rfl rfl rfl rfl (or_buildSlice (e := 9) (size := 1) (is := [0, 1, 2, 3, 4, 5, 6, 7]) (vs := [.string (bstr [48]), .string (bstr [49]), .string (bstr [55]), .string (bstr [44]), .string (bstr [58]), .string (bstr [45]), .string (bstr [97]), .string (bstr [32])]) (cs := cells fS ([bstr [48], bstr [49], bstr [55], bstr [44], bstr [58], bstr [45], bstr [97], bstr [32]])) rfl rfl rfl (by decide) (fun _ => by kernel_rfl)) (kt1 rfl (fun g24 => ?_))
      refine gk ((.drop (.drop .refl))) ?_
      refine wg_one (i := 5) (by kernel_rfl) ?_
      refine go_r rfl rfl rfl rfl (or_call (fv := []) (vs := [elp (some ⟨g, 0, none⟩) (0), .slice (some ⟨g24, 0, none⟩) (8) (8)]) (cs := []) en58 rfl rfl (call_o (.cons (.tail .head) (.cons (.head) (.refl))) (fun w hw => of_c w _ _ _ (some ⟨g24, 0, none⟩) 8 8 ([bstr [48], bstr [49], bstr [55], bstr [44], bstr [58], bstr [45], bstr [97], bstr [32]]) g Ar nr cr bs ((p + 1) + 1) (holds_row (List.Mem.head _)) (by first | rfl | assumption | (simp; done) | (simp; omega)) (Nat.le_refl _) (Holds.keepF hAr ((.drop .refl))) (by first | rfl | assumption | (simp; done) | (simp; omega)) lAr ⟨hy.1, hy.2.1, by omega⟩ (by decide) hw))) (kt1p rfl (fun t_25 h_25 => ?_))
      refine gk ((.drop (.drop .refl))) ?_
      refine wg_takep (i := 6) rfl (ov_adds (r := ((s.extract 0 j) ++ t_25)) rfl rfl rfl (by have := of8 _ h_25; omega)) rfl rfl rfl (by kernel_rfl) (by kernel_rfl) (by kernel_rfl) rfl ?_
      refine wg_takep (i := 11) rfl (ov_adds (r := (((s.extract 0 j) ++ t_25) ++ (s.extract (j + 1) s.size))) rfl rfl rfl (by have := of8 _ h_25; have := hx1 (by omega); rw [ByteArray.size_append]; omega)) rfl rfl rfl (by kernel_rfl) (by kernel_rfl) (by kernel_rfl) rfl ?_
      refine wg_takep (i := 12) rfl (ov_assign rfl) rfl rfl rfl (by kernel_rfl) (by kernel_rfl) (by kernel_rfl) rfl ?_
      refine wg_done (by kernel_rfl) ?_
      refine ce_then ?_
      refine cw_ret ?_
      refine ce_block_ret ?_
      refine ce_then_ret ?_
      refine ce_results (v := .string ((((s.extract 0 j) ++ t_25) ++ (s.extract (j + 1) s.size)))) (res1 rfl (rv_t rfl)) (fun w' hw => ?_)
      exact ⟨(((s.extract 0 j) ++ t_25) ++ (s.extract (j + 1) s.size)), p + 1 + 1 + 1, ⟨by have := of8 _ h_25; have := hx1 (by omega); rw [ByteArray.size_append, ByteArray.size_append]; omega, by omega, by omega⟩, rfl, ((.cons (.head) ((.drop .refl)) : Keep _ _).ss hw)⟩
    ·
      refine wl_nil ?_
      refine ce_then ?_
      refine cw_false rfl ?_
      refine cw_skip ?_
      refine ce_block ?_
      refine ce_then ?_
      refine cw_seq ?_
      refine cw_region ?_
      refine wl_v (ov_move rfl) rfl rfl rfl ?_
      refine wl_v (ov_assign rfl) rfl rfl rfl ?_
      refine wl_nil ?_
      refine ce_then ?_
      refine cw_ret ?_
      refine ce_results (v := .string (s)) (res1 rfl (rv_t rfl)) (fun w' hw => ?_)
      exact ⟨s, p + 1 + 1, ⟨by omega, by omega, by omega⟩, rfl, ((.cons (.head) (.refl) : Keep _ _).ss hw)⟩
  ·
    refine wl_v (ov_assign rfl) rfl rfl rfl ?_
    refine wl_nil ?_
    refine ce_then ?_
    refine cw_false rfl ?_
    refine cw_region ?_
    refine wl_if (ov_eql rfl rfl) rfl rfl rfl (fun c15 => ?_) (fun c15 => ?_)
    ·
      refine wl_v (ov_assign rfl) rfl rfl rfl ?_
      refine wl_nil ?_
      refine ce_then ?_
      refine cw_true rfl ?_
      refine cw_seq ?_
      refine cw_region ?_
      refine wl_v (ov_move rfl) rfl rfl rfl ?_
      refine wl_v (ov_move rfl) rfl rfl rfl ?_
      refine wl_v (ov_lens uI9 rfl) rfl rfl rfl ?_
      refine wl_if (ov_lss rfl rfl) rfl rfl rfl (fun c19 => ?_) (fun c19 => ?_)
      ·
        refine wl_nil ?_
        refine ce_then ?_
        refine cw_true rfl ?_
        refine cw_seq ?_
        refine cw_draw mixO [] ((.drop .refl)) rfl ?_
        refine wg_takep (i := 0) rfl (ov_move rfl) rfl rfl rfl (by kernel_rfl) (by kernel_rfl) (by kernel_rfl) rfl ?_
        refine wg_takep (i := 1) rfl (ov_move rfl) rfl rfl rfl (by kernel_rfl) (by kernel_rfl) (by kernel_rfl) rfl ?_
        refine wg_takep (i := 2) rfl (ov_slices_h (k := j) uI9 rfl rfl (by omega)) rfl rfl rfl (by kernel_rfl) (by kernel_rfl) (by kernel_rfl) rfl ?_
        refine wg_takep (i := 3) rfl (ov_move rfl) rfl rfl rfl (by kernel_rfl) (by kernel_rfl) (by kernel_rfl) rfl ?_
        refine wg_takep (i := 7) rfl (ov_move rfl) rfl rfl rfl (by kernel_rfl) (by kernel_rfl) (by kernel_rfl) rfl ?_
        refine wg_takep (i := 8) rfl (ov_move rfl) rfl rfl rfl (by kernel_rfl) (by kernel_rfl) (by kernel_rfl) rfl ?_
        refine wg_takep (i := 9) rfl (ov_add (r := ((j + 1 : Nat) : Int)) rfl rfl rfl (by omega)) rfl rfl rfl (by kernel_rfl) (by kernel_rfl) (by kernel_rfl) rfl ?_
        refine wg_takep (i := 10) rfl (ov_slices_l (k := j + 1) uI9 rfl rfl (by omega)) rfl rfl rfl (by kernel_rfl) (by kernel_rfl) (by kernel_rfl) rfl ?_
        refine wg_one (i := 4) (by kernel_rfl) ?_
        refine go_r rfl rfl rfl rfl (or_buildSlice (e := 9) (size := 1) (is := [0, 1, 2, 3, 4, 5, 6, 7]) (vs := [.string (bstr [48]), .string (bstr [49]), .string (bstr [55]), .string (bstr [44]), .string (bstr [58]), .string (bstr [45]), .string (bstr [97]), .string (bstr [32])]) (cs := cells fS ([bstr [48], bstr [49], bstr [55], bstr [44], bstr [58], bstr [45], bstr [97], bstr [32]])) rfl rfl rfl (by decide) (fun _ => by kernel_rfl)) (kt1 rfl (fun g24 => ?_))
        refine gk ((.drop (.drop .refl))) ?_
        refine wg_one (i := 5) (by kernel_rfl) ?_
        refine go_r rfl rfl rfl rfl (or_call (fv := []) (vs := [elp (some ⟨g, 0, none⟩) (0), .slice (some ⟨g24, 0, none⟩) (8) (8)]) (cs := []) en58 rfl rfl (call_o (.cons (.tail .head) (.cons (.head) (.refl))) (fun w hw => of_c w _ _ _ (some ⟨g24, 0, none⟩) 8 8 ([bstr [48], bstr [49], bstr [55], bstr [44], bstr [58], bstr [45], bstr [97], bstr [32]]) g Ar nr cr bs ((p + 1) + 1) (holds_row (List.Mem.head _)) (by first | rfl | assumption | (simp; done) | (simp; omega)) (Nat.le_refl _) (Holds.keepF hAr ((.drop .refl))) (by first | rfl | assumption | (simp; done) | (simp; omega)) lAr ⟨hy.1, hy.2.1, by omega⟩ (by decide) hw))) (kt1p rfl (fun t_25 h_25 => ?_))
        refine gk ((.drop (.drop .refl))) ?_
        refine wg_takep (i := 6) rfl (ov_adds (r := ((s.extract 0 j) ++ t_25)) rfl rfl rfl (by have := of8 _ h_25; omega)) rfl rfl rfl (by kernel_rfl) (by kernel_rfl) (by kernel_rfl) rfl ?_
        refine wg_takep (i := 11) rfl (ov_adds (r := (((s.extract 0 j) ++ t_25) ++ (s.extract (j + 1) s.size))) rfl rfl rfl (by have := of8 _ h_25; have := hx1 (by omega); rw [ByteArray.size_append]; omega)) rfl rfl rfl (by kernel_rfl) (by kernel_rfl) (by kernel_rfl) rfl ?_
        refine wg_takep (i := 12) rfl (ov_assign rfl) rfl rfl rfl (by kernel_rfl) (by kernel_rfl) (by kernel_rfl) rfl ?_
        refine wg_done (by kernel_rfl) ?_
        refine ce_then ?_
        refine cw_ret ?_
        refine ce_block_ret ?_
        refine ce_then_ret ?_
        refine ce_results (v := .string ((((s.extract 0 j) ++ t_25) ++ (s.extract (j + 1) s.size)))) (res1 rfl (rv_t rfl)) (fun w' hw => ?_)
        exact ⟨(((s.extract 0 j) ++ t_25) ++ (s.extract (j + 1) s.size)), p + 1 + 1 + 1, ⟨by have := of8 _ h_25; have := hx1 (by omega); rw [ByteArray.size_append, ByteArray.size_append]; omega, by omega, by omega⟩, rfl, ((.cons (.head) ((.drop .refl)) : Keep _ _).ss hw)⟩
      ·
        refine wl_nil ?_
        refine ce_then ?_
        refine cw_false rfl ?_
        refine cw_skip ?_
        refine ce_block ?_
        refine ce_then ?_
        refine cw_seq ?_
        refine cw_region ?_
        refine wl_v (ov_move rfl) rfl rfl rfl ?_
        refine wl_v (ov_assign rfl) rfl rfl rfl ?_
        refine wl_nil ?_
        refine ce_then ?_
        refine cw_ret ?_
        refine ce_results (v := .string (s)) (res1 rfl (rv_t rfl)) (fun w' hw => ?_)
        exact ⟨s, p + 1 + 1, ⟨by omega, by omega, by omega⟩, rfl, ((.cons (.head) (.refl) : Keep _ _).ss hw)⟩
    ·
      refine wl_v (ov_assign rfl) rfl rfl rfl ?_
      refine wl_nil ?_
      refine ce_then ?_
      refine cw_false rfl ?_
      refine cw_seq ?_
      refine cw_region ?_
      refine wl_if (ov_eql rfl rfl) rfl rfl rfl (fun c33 => ?_) (fun c33 => ?_)
      ·
        refine wl_v (ov_assign rfl) rfl rfl rfl ?_
        refine wl_nil ?_
        refine ce_then ?_
        refine cw_true rfl ?_
        refine cw_seq ?_
        refine cw_region ?_
        refine wl_v (ov_move rfl) rfl rfl rfl ?_
        refine wl_v (ov_move rfl) rfl rfl rfl ?_
        refine wl_v (ov_slices_h (k := j) uI9 rfl rfl (by omega)) rfl rfl rfl ?_
        refine wl_v (ov_assign rfl) rfl rfl rfl ?_
        refine wl_nil ?_
        refine ce_then ?_
        refine cw_ret ?_
        refine ce_block_ret ?_
        refine ce_then_ret ?_
        refine ce_results (v := .string ((s.extract 0 j))) (res1 rfl (rv_t rfl)) (fun w' hw => ?_)
        exact ⟨(s.extract 0 j), p + 1 + 1, ⟨by omega, by omega, by omega⟩, rfl, ((.cons (.head) (.refl) : Keep _ _).ss hw)⟩
      ·
        refine wl_v (ov_assign rfl) rfl rfl rfl ?_
        refine wl_nil ?_
        refine ce_then ?_
        refine cw_false rfl ?_
        refine cw_seq ?_
        refine cw_region ?_
        refine wl_if (ov_eql rfl rfl) rfl rfl rfl (fun c38 => ?_) (fun c38 => ?_)
        ·
          refine wl_v (ov_assign rfl) rfl rfl rfl ?_
          refine wl_nil ?_
          refine ce_then ?_
          refine cw_true rfl ?_
          refine cw_seq ?_
          refine cw_region ?_
          refine wl_v (ov_move rfl) rfl rfl rfl ?_
          refine wl_v (ov_move rfl) rfl rfl rfl ?_
          refine wl_r (or_buildSlice (e := 9) (size := 1) (is := [0, 1, 2, 3]) (vs := [.string (bstr [48]), .string (bstr [44]), .string (bstr [32]), .string (bstr [49, 50])]) (cs := cells fS ([bstr [48], bstr [44], bstr [32], bstr [49, 50]])) rfl rfl rfl (by decide) (fun _ => by kernel_rfl)) rfl rfl (kt1 rfl (fun g41 => ?_))
          refine wl_r (or_call (fv := []) (vs := [elp (some ⟨g, 0, none⟩) (0), .slice (some ⟨g41, 0, none⟩) (4) (4)]) (cs := []) en58 rfl rfl (call_o (.cons (.tail .head) (.cons (.head) (.refl))) (fun w hw => of_c w _ _ _ (some ⟨g41, 0, none⟩) 4 4 ([bstr [48], bstr [44], bstr [32], bstr [49, 50]]) g Ar nr cr bs ((p + 1) + 1) (holds_row (List.Mem.head _)) (by first | rfl | assumption | (simp; done) | (simp; omega)) (Nat.le_refl _) (Holds.keepF hAr ((.drop .refl))) (by first | rfl | assumption | (simp; done) | (simp; omega)) lAr ⟨hy.1, hy.2.1, by omega⟩ (by decide) hw))) rfl rfl (kt1p rfl (fun t_42 h_42 => ?_))
          refine wl_v (ov_adds (r := (s ++ t_42)) rfl rfl rfl (by have := of4 _ h_42; omega)) rfl rfl rfl ?_
          refine wl_v (ov_assign rfl) rfl rfl rfl ?_
          refine wl_nil ?_
          refine ce_then ?_
          refine cw_ret ?_
          refine ce_block_ret ?_
          refine ce_then_ret ?_
          refine ce_results (v := .string ((s ++ t_42))) (res1 rfl (rv_t rfl)) (fun w' hw => ?_)
          exact ⟨(s ++ t_42), p + 1 + 1 + 1, ⟨by have := of4 _ h_42; rw [ByteArray.size_append]; omega, by omega, by omega⟩, rfl, ((.cons (.head) ((.drop .refl)) : Keep _ _).ss hw)⟩
        ·
          refine wl_v (ov_assign rfl) rfl rfl rfl ?_
          refine wl_nil ?_
          refine ce_then ?_
          refine cw_false rfl ?_
          refine cw_skip ?_
          refine ce_block ?_
          refine ce_then ?_
          refine cw_seq ?_
          refine cw_region ?_
          refine wl_v (ov_move rfl) rfl rfl rfl ?_
          refine wl_v (ov_assign rfl) rfl rfl rfl ?_
          refine wl_nil ?_
          refine ce_then ?_
          refine cw_ret ?_
          refine ce_results (v := .string (s)) (res1 rfl (rv_t rfl)) (fun w' hw => ?_)
          exact ⟨s, p + 1 + 1, ⟨by omega, by omega, by omega⟩, rfl, ((.cons (.head) (.refl) : Keep _ _).ss hw)⟩
set_option maxRecDepth 100000 in
theorem DrawParse_c (w : World) (Ar : Option Addr) (nr : Nat) (cr : Nat) (bs : List (Nat)) (hAr : At w Ar (cells fY bs)) (eAr : bs.length = nr) (lAr : nr ≤ cr) (hb : ∀ x ∈ bs, x < 256) : Calls Tryd.prog 20 #[.slice Ar (nr) (cr)] w (Ret fun rv w' => ∃ s, (s.size ≤ 100) ∧ rv = .string (s) ∧ New w w' []) := by
  have oAr := hAr.atB
  subst eAr
  refine fn_enter (args := [.slice Ar (bs.length) (cr)]) Tryd.func20 rfl Tryd.ntmps20 rfl (SS.start w) ?_
  refine cw_seq ?_
  refine cw_region ?_
  refine wl_v (ov_assign rfl) rfl rfl rfl ?_
  refine wl_nil ?_
  refine ce_then ?_
  refine cw_seq ?_
  refine cw_region ?_
  refine wl_v (ov_move rfl) rfl rfl rfl ?_
  refine wl_r (or_call (fv := []) (vs := [.slice Ar (bs.length) (cr)]) (cs := []) en33 rfl rfl (call_x2 (fun w hw => newReader_c w Ar bs.length cr bs ((holds_old oAr) w hw) rfl lAr))) rfl rfl (kt2p rfl (fun g_6 n2_6 h_6 => ?_))
  refine wl_v (ov_assign rfl) rfl rfl rfl ?_
  refine wl_nil ?_
  refine ce_then ?_
  refine cw_seq ?_
  refine cw_region ?_
  refine wl_v (ov_move rfl) rfl rfl rfl ?_
  refine wl_r (or_call (fv := []) (vs := [elp (some ⟨g_6, 0, none⟩) (0)]) (cs := []) en36 rfl rfl (call_o (.cons (.head) (.nil)) (fun w hw => goodDegreesD_c w _ _ _ g_6 Ar n2_6 cr (bs.take n2_6) 0 (holds_takeC (k := n2_6) fY_len (holds_old oAr)) (by rw [List.length_take]; omega) (by omega) ⟨by omega, fun x hx => hb x (List.mem_of_mem_take hx), by omega⟩ hw))) rfl rfl (kt4p rfl (fun A2_8 c2_8 ys_8 q_8 h_8 => ?_))
  have hdl := dig_len (xs := ys_8) (fun x hx => by have := h_8.1.2.2 x hx; omega)
  refine wl_r (or_call (fv := []) (vs := [.slice A2_8 (ys_8.length) (c2_8)]) (cs := []) en31 rfl rfl (call_v (fun w hw => degreesTextS_c w A2_8 ys_8.length c2_8 ys_8 ((holds_row (List.Mem.head _)) w hw) rfl h_8.1.1 (by omega) h_8.1.2.2))) rfl rfl (kt0 rfl ?_)
  refine wl_v (ov_assign rfl) rfl rfl rfl ?_
  refine wl_nil ?_
  refine ce_then ?_
  refine cw_seq ?_
  refine cw_seq ?_
  refine cw_region ?_
  refine wl_v (ov_move rfl) rfl rfl rfl ?_
  refine wl_r (or_call (fv := []) (vs := [elp (some ⟨g_6, 0, none⟩) (0), .int .i64 (3)]) (cs := []) en37 rfl rfl (call_o (.cons (.tail .head) (.cons (.head) (.nil))) (fun w hw => pick_c w _ _ _ 3 g_6 Ar n2_6 cr (bs.take n2_6) q_8 (holds_takeC (k := n2_6) fY_len (holds_old oAr)) (by rw [List.length_take]; omega) (by omega) ⟨by omega, fun x hx => hb x (List.mem_of_mem_take hx), by omega⟩ (by first | assumption | omega | (simp; omega)) hw))) rfl rfl (kt1p rfl (fun v_11 h_11 => ?_))
  refine wl_if (ov_eql rfl rfl) rfl rfl rfl (fun c12 => ?_) (fun c12 => ?_)
  ·
    refine wl_nil ?_
    refine ce_then ?_
    refine cw_true rfl ?_
    refine cw_region ?_
    refine wl_v (ov_move rfl) rfl rfl rfl ?_
    refine wl_v (ov_move rfl) rfl rfl rfl ?_
    refine wl_r (or_call (fv := []) (vs := [elp (some ⟨g_6, 0, none⟩) (0), .string (bstr (dig ys_8))]) (cs := []) en38 rfl rfl (call_o (.cons (.head) (.cons (.head) (.nil))) (fun w hw => mutate_c w _ _ _ (bstr (dig ys_8)) g_6 Ar n2_6 cr (bs.take n2_6) (q_8 + 1) (holds_takeC (k := n2_6) fY_len (holds_old oAr)) (by rw [List.length_take]; omega) (by omega) ⟨by omega, fun x hx => hb x (List.mem_of_mem_take hx), by omega⟩ (by rw [bstr_size]; omega) hw))) rfl rfl (kt2p rfl (fun t_15 q_15 h_15 => ?_))
    refine wl_v (ov_assign rfl) rfl rfl rfl ?_
    refine wl_nil ?_
    refine ce_then ?_
    refine cw_seq ?_
    refine cw_region ?_
    refine wl_v (ov_move rfl) rfl rfl rfl ?_
    refine wl_v (ov_assign rfl) rfl rfl rfl ?_
    refine wl_nil ?_
    refine ce_then ?_
    refine cw_ret ?_
    refine ce_results (v := .string (t_15)) (res1 rfl (rv_t rfl)) (fun w' hw => ?_)
    exact ⟨t_15, (by rw [bstr_size] at h_15; omega), rfl, ((.nil : Keep _ _).ss hw).to_new⟩
  ·
    refine wl_nil ?_
    refine ce_then ?_
    refine cw_false rfl ?_
    refine cw_skip ?_
    refine ce_then ?_
    refine cw_seq ?_
    refine cw_region ?_
    refine wl_v (ov_move rfl) rfl rfl rfl ?_
    refine wl_v (ov_assign rfl) rfl rfl rfl ?_
    refine wl_nil ?_
    refine ce_then ?_
    refine cw_ret ?_
    refine ce_results (v := .string (bstr (dig ys_8))) (res1 rfl (rv_t rfl)) (fun w' hw => ?_)
    exact ⟨bstr (dig ys_8), (by rw [bstr_size]; omega), rfl, ((.nil : Keep _ _).ss hw).to_new⟩
end Go.Proofs.YthllnilddbdmaaaDoor.W54
